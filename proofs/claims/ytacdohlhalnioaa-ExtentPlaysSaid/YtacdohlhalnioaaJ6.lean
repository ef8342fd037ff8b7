/- Joined: XF1 XF2 XF3 XF4 XF5 XF6 XF7 XF8 XF9. -/
import Derived.Test.YtacdohlhalnioaaJ4
import Derived.BigRegion
import Derived.Test.YtacdohlhalnioaaJ2
import Derived.Test.YtacdohlhalnioaaJ5
/- Contracts: the document's numbers of two bytes, and its inode of 64 bytes. -/
section
set_option linter.unusedSimpArgs false
set_option linter.unusedVariables false
set_option maxRecDepth 20000
namespace Go.Proofs.Ytacdohlhalnioaa
open Go.RowKit
attribute [local go_sem] Oper.semAt_some

theorem wrap_i64 (n : Nat) (h : n < 4294967296) : IntKind.i64.wrap (n : Int) = (n : Int) := by simp [IntKind.wrap, IntKind.bits, IntKind.signed]; omega
set_option maxHeartbeats 1000000 in
theorem word_ok (s : Blk) (i : Nat) (w : World) (h : i + 1 < s.length) (hl : s.length ≤ 128) :
    Calls Try.prog 122 #[.string (mk s), .int .i64 i] w fun e w' => e = .returned (.int .i64 ((w2 s i : Nat) : Int)) ∧ w.drew = w' := by
  have h1 : (i : Int) < (s.length : Nat) := by omega
  have h2 : (i : Int) + 1 < (s.length : Nat) := by omega
  have hw : IntKind.i64.wrap ((i : Int) + 1) = (i : Int) + 1 := by simp [IntKind.wrap, IntKind.bits, IntKind.signed]; omega
  have ht : ((i : Int) + 1).toNat = i + 1 := by omega
  have hp : (0 : Int) ≤ (i : Int) + 1 := by omega
  have b0 := gb_lt s i
  have b1 := gb_lt s (i + 1)
  have hw2 : (gb s i : Int) + 256 * (gb s (i + 1) : Int) = ((w2 s i : Nat) : Int) := by rw [w2]; omega
  have hwl := w2_lt s i
  obtain ⟨x0, e0⟩ : ∃ x0, gb s i = x0 := ⟨_, rfl⟩
  obtain ⟨x1, e1⟩ : ∃ x1, gb s (i + 1) = x1 := ⟨_, rfl⟩
  obtain ⟨x2, e2⟩ : ∃ x2, w2 s i = x2 := ⟨_, rfl⟩
  rw [e0] at b0
  rw [e1] at b1
  rw [e0, e1, e2] at hw2
  rw [e2] at hwl ⊢
  have q0 : IntKind.i64.wrap (x0 : Int) = x0 := by simp [IntKind.wrap, IntKind.bits, IntKind.signed]; omega
  have q1 : IntKind.i64.wrap (x1 : Int) = x1 := by simp [IntKind.wrap, IntKind.bits, IntKind.signed]; omega
  have q2 : IntKind.i64.wrap (256 * (x1 : Int)) = 256 * x1 := by simp [IntKind.wrap, IntKind.bits, IntKind.signed]; omega
  have q3 : IntKind.i64.wrap (x2 : Int) = x2 := by simp [IntKind.wrap, IntKind.bits, IntKind.signed]; omega
  have E2 := Lib.hid e2
  clear e2
  go_enter Try.func122, Try.ntmps122
  go_wp2
  refine region_P (fun _ => True) [] (by kernel_rfl) ?_ (fun hHeld => ?_)
  · exact trivial
  refine wpP_take (i := 0) (oi := ?oi345001) (v := ?v345001) ?hi345001 (by kernel_rfl) (by kernel_rfl) (by kernel_rfl) (by kernel_rfl) ?hQ345001 ?hy345001 (by assumption) ?rest345001
  case hi345001 => (simp only [List.getElem?_toArray, List.getElem?_cons_succ, List.getElem?_cons_zero]; exact rfl)
  case hQ345001 => exact fun _ _ _ h => h
  case hy345001 => (refine Or.inl ⟨by kernel_rfl, ?_⟩; intro w hSw; (try dsimp only at hSw); go_simp; try (with_reducible rfl))
  try simp only [Act.put, List.setIfInBounds_toArray, List.set_cons_zero, List.set_cons_succ]
  refine wpP_take (i := 1) (oi := ?oi345002) (v := ?v345002) ?hi345002 (by kernel_rfl) (by kernel_rfl) (by kernel_rfl) (by kernel_rfl) ?hQ345002 ?hy345002 (by assumption) ?rest345002
  case hi345002 => (simp only [List.getElem?_toArray, List.getElem?_cons_succ, List.getElem?_cons_zero]; exact rfl)
  case hQ345002 => exact fun _ _ _ h => h
  case hy345002 => (refine Or.inl ⟨by kernel_rfl, ?_⟩; intro w hSw; (try dsimp only at hSw); go_simp; try (with_reducible rfl))
  try simp only [Act.put, List.setIfInBounds_toArray, List.set_cons_zero, List.set_cons_succ]
  refine wpP_take (i := 2) (oi := ?oi345003) (v := ?v345003) ?hi345003 (by kernel_rfl) (by kernel_rfl) (by kernel_rfl) (by kernel_rfl) ?hQ345003 ?hy345003 (by assumption) ?rest345003
  case hi345003 => (simp only [List.getElem?_toArray, List.getElem?_cons_succ, List.getElem?_cons_zero]; exact rfl)
  case hQ345003 => exact fun _ _ _ h => h
  case hy345003 => (refine Or.inl ⟨by kernel_rfl, ?_⟩; intro w hSw; (try dsimp only at hSw); go_simp; try (with_reducible rfl))
  try simp only [Act.put, List.setIfInBounds_toArray, List.set_cons_zero, List.set_cons_succ]
  refine wpP_take (i := 3) (oi := ?oi345004) (v := ?v345004) ?hi345004 (by kernel_rfl) (by kernel_rfl) (by kernel_rfl) (by kernel_rfl) ?hQ345004 ?hy345004 (by assumption) ?rest345004
  case hi345004 => (simp only [List.getElem?_toArray, List.getElem?_cons_succ, List.getElem?_cons_zero]; exact rfl)
  case hQ345004 => exact fun _ _ _ h => h
  case hy345004 => (refine Or.inl ⟨by kernel_rfl, ?_⟩; intro w hSw; (try dsimp only at hSw); go_simp; try (with_reducible rfl))
  try simp only [Act.put, List.setIfInBounds_toArray, List.set_cons_zero, List.set_cons_succ]
  refine wpP_take (i := 4) (oi := ?oi345005) (v := ?v345005) ?hi345005 (by kernel_rfl) (by kernel_rfl) (by kernel_rfl) (by kernel_rfl) ?hQ345005 ?hy345005 (by assumption) ?rest345005
  case hi345005 => (simp only [List.getElem?_toArray, List.getElem?_cons_succ, List.getElem?_cons_zero]; exact rfl)
  case hQ345005 => exact fun _ _ _ h => h
  case hy345005 => (refine Or.inl ⟨by kernel_rfl, ?_⟩; intro w hSw; (try dsimp only at hSw); go_simp; try (with_reducible rfl))
  try simp only [Act.put, List.setIfInBounds_toArray, List.set_cons_zero, List.set_cons_succ]
  refine wpP_take (i := 5) (oi := ?oi345006) (v := ?v345006) ?hi345006 (by kernel_rfl) (by kernel_rfl) (by kernel_rfl) (by kernel_rfl) ?hQ345006 ?hy345006 (by assumption) ?rest345006
  case hi345006 => (simp only [List.getElem?_toArray, List.getElem?_cons_succ, List.getElem?_cons_zero]; exact rfl)
  case hQ345006 => exact fun _ _ _ h => h
  case hy345006 => (refine Or.inl ⟨by kernel_rfl, ?_⟩; intro w hSw; (try dsimp only at hSw); go_simp; try (with_reducible rfl))
  try simp only [Act.put, List.setIfInBounds_toArray, List.set_cons_zero, List.set_cons_succ]
  refine wpP_take (i := 6) (oi := ?oi345007) (v := ?v345007) ?hi345007 (by kernel_rfl) (by kernel_rfl) (by kernel_rfl) (by kernel_rfl) ?hQ345007 ?hy345007 (by assumption) ?rest345007
  case hi345007 => (simp only [List.getElem?_toArray, List.getElem?_cons_succ, List.getElem?_cons_zero]; exact rfl)
  case hQ345007 => exact fun _ _ _ h => h
  case hy345007 => (refine Or.inl ⟨by kernel_rfl, ?_⟩; intro w hSw; (try dsimp only at hSw); go_simp; try (with_reducible rfl))
  try simp only [Act.put, List.setIfInBounds_toArray, List.set_cons_zero, List.set_cons_succ]
  refine wpP_take (i := 7) (oi := ?oi345008) (v := ?v345008) ?hi345008 (by kernel_rfl) (by kernel_rfl) (by kernel_rfl) (by kernel_rfl) ?hQ345008 ?hy345008 (by assumption) ?rest345008
  case hi345008 => (simp only [List.getElem?_toArray, List.getElem?_cons_succ, List.getElem?_cons_zero]; exact rfl)
  case hQ345008 => exact fun _ _ _ h => h
  case hy345008 => (refine Or.inl ⟨by kernel_rfl, ?_⟩; intro w hSw; (try dsimp only at hSw); go_simp; try (with_reducible rfl))
  try simp only [Act.put, List.setIfInBounds_toArray, List.set_cons_zero, List.set_cons_succ]
  refine wpP_take (i := 8) (oi := ?oi345009) (v := ?v345009) ?hi345009 (by kernel_rfl) (by kernel_rfl) (by kernel_rfl) (by kernel_rfl) ?hQ345009 ?hy345009 (by assumption) ?rest345009
  case hi345009 => (simp only [List.getElem?_toArray, List.getElem?_cons_succ, List.getElem?_cons_zero]; exact rfl)
  case hQ345009 => exact fun _ _ _ h => h
  case hy345009 => (refine Or.inl ⟨by kernel_rfl, ?_⟩; intro w hSw; (try dsimp only at hSw); go_simp; try (with_reducible rfl))
  try simp only [Act.put, List.setIfInBounds_toArray, List.set_cons_zero, List.set_cons_succ]
  refine wpP_take (i := 9) (oi := ?oi345010) (v := ?v345010) ?hi345010 (by kernel_rfl) (by kernel_rfl) (by kernel_rfl) (by kernel_rfl) ?hQ345010 ?hy345010 (by assumption) ?rest345010
  case hi345010 => (simp only [List.getElem?_toArray, List.getElem?_cons_succ, List.getElem?_cons_zero]; exact rfl)
  case hQ345010 => exact fun _ _ _ h => h
  case hy345010 => (refine Or.inl ⟨by kernel_rfl, ?_⟩; intro w hSw; (try dsimp only at hSw); go_simp; try (with_reducible rfl))
  try simp only [Act.put, List.setIfInBounds_toArray, List.set_cons_zero, List.set_cons_succ]
  refine wpP_take (i := 10) (oi := ?oi345011) (v := ?v345011) ?hi345011 (by kernel_rfl) (by kernel_rfl) (by kernel_rfl) (by kernel_rfl) ?hQ345011 ?hy345011 (by assumption) ?rest345011
  case hi345011 => (simp only [List.getElem?_toArray, List.getElem?_cons_succ, List.getElem?_cons_zero]; exact rfl)
  case hQ345011 => exact fun _ _ _ h => h
  case hy345011 => (refine Or.inl ⟨by kernel_rfl, ?_⟩; intro w hSw; (try dsimp only at hSw); go_simp; try (with_reducible rfl))
  try simp only [Act.put, List.setIfInBounds_toArray, List.set_cons_zero, List.set_cons_succ]
  refine wpP_take (i := 11) (oi := ?oi345012) (v := ?v345012) ?hi345012 (by kernel_rfl) (by kernel_rfl) (by kernel_rfl) (by kernel_rfl) ?hQ345012 ?hy345012 (by assumption) ?rest345012
  case hi345012 => (simp only [List.getElem?_toArray, List.getElem?_cons_succ, List.getElem?_cons_zero]; exact rfl)
  case hQ345012 => exact fun _ _ _ h => h
  case hy345012 => (refine Or.inl ⟨by kernel_rfl, ?_⟩; intro w hSw; (try dsimp only at hSw); go_simp; try (with_reducible rfl))
  try simp only [Act.put, List.setIfInBounds_toArray, List.set_cons_zero, List.set_cons_succ]
  refine wpP_done (by kernel_rfl) ?_ _
  go_wp2
  go_ret
  exact ⟨rfl, rfl⟩
set_option maxHeartbeats 1000000 in
theorem two_ok (s : Blk) (i : Nat) (w : World) (h : i + 1 < s.length) (hl : s.length ≤ 128) :
    Calls Try.prog 98 #[.string (mk s), .int .i64 i] w fun e w' => e = .returned (.int .i64 ((w2 s i : Nat) : Int)) ∧ w.drew = w' := by
  have h1 : (i : Int) < (s.length : Nat) := by omega
  have h2 : (i : Int) + 1 < (s.length : Nat) := by omega
  have hw : IntKind.i64.wrap ((i : Int) + 1) = (i : Int) + 1 := by simp [IntKind.wrap, IntKind.bits, IntKind.signed]; omega
  have ht : ((i : Int) + 1).toNat = i + 1 := by omega
  have hp : (0 : Int) ≤ (i : Int) + 1 := by omega
  have b0 := gb_lt s i
  have b1 := gb_lt s (i + 1)
  have hw2 : (gb s i : Int) + 256 * (gb s (i + 1) : Int) = ((w2 s i : Nat) : Int) := by rw [w2]; omega
  have hwl := w2_lt s i
  obtain ⟨x0, e0⟩ : ∃ x0, gb s i = x0 := ⟨_, rfl⟩
  obtain ⟨x1, e1⟩ : ∃ x1, gb s (i + 1) = x1 := ⟨_, rfl⟩
  obtain ⟨x2, e2⟩ : ∃ x2, w2 s i = x2 := ⟨_, rfl⟩
  rw [e0] at b0
  rw [e1] at b1
  rw [e0, e1, e2] at hw2
  rw [e2] at hwl ⊢
  have q0 : IntKind.i64.wrap (x0 : Int) = x0 := by simp [IntKind.wrap, IntKind.bits, IntKind.signed]; omega
  have q1 : IntKind.i64.wrap (x1 : Int) = x1 := by simp [IntKind.wrap, IntKind.bits, IntKind.signed]; omega
  have q2 : IntKind.i64.wrap (256 * (x1 : Int)) = 256 * x1 := by simp [IntKind.wrap, IntKind.bits, IntKind.signed]; omega
  have q3 : IntKind.i64.wrap (x2 : Int) = x2 := by simp [IntKind.wrap, IntKind.bits, IntKind.signed]; omega
  have E2 := Lib.hid e2
  clear e2
  go_enter Try.func98, Try.ntmps98
  go_wp2
  refine region_P (fun _ => True) [] (by kernel_rfl) ?_ (fun hHeld => ?_)
  · exact trivial
  refine wpP_take (i := 0) (oi := ?oi345013) (v := ?v345013) ?hi345013 (by kernel_rfl) (by kernel_rfl) (by kernel_rfl) (by kernel_rfl) ?hQ345013 ?hy345013 (by assumption) ?rest345013
  case hi345013 => (simp only [List.getElem?_toArray, List.getElem?_cons_succ, List.getElem?_cons_zero]; exact rfl)
  case hQ345013 => exact fun _ _ _ h => h
  case hy345013 => (refine Or.inl ⟨by kernel_rfl, ?_⟩; intro w hSw; (try dsimp only at hSw); go_simp; try (with_reducible rfl))
  try simp only [Act.put, List.setIfInBounds_toArray, List.set_cons_zero, List.set_cons_succ]
  refine wpP_take (i := 1) (oi := ?oi345014) (v := ?v345014) ?hi345014 (by kernel_rfl) (by kernel_rfl) (by kernel_rfl) (by kernel_rfl) ?hQ345014 ?hy345014 (by assumption) ?rest345014
  case hi345014 => (simp only [List.getElem?_toArray, List.getElem?_cons_succ, List.getElem?_cons_zero]; exact rfl)
  case hQ345014 => exact fun _ _ _ h => h
  case hy345014 => (refine Or.inl ⟨by kernel_rfl, ?_⟩; intro w hSw; (try dsimp only at hSw); go_simp; try (with_reducible rfl))
  try simp only [Act.put, List.setIfInBounds_toArray, List.set_cons_zero, List.set_cons_succ]
  refine wpP_take (i := 2) (oi := ?oi345015) (v := ?v345015) ?hi345015 (by kernel_rfl) (by kernel_rfl) (by kernel_rfl) (by kernel_rfl) ?hQ345015 ?hy345015 (by assumption) ?rest345015
  case hi345015 => (simp only [List.getElem?_toArray, List.getElem?_cons_succ, List.getElem?_cons_zero]; exact rfl)
  case hQ345015 => exact fun _ _ _ h => h
  case hy345015 => (refine Or.inl ⟨by kernel_rfl, ?_⟩; intro w hSw; (try dsimp only at hSw); go_simp; try (with_reducible rfl))
  try simp only [Act.put, List.setIfInBounds_toArray, List.set_cons_zero, List.set_cons_succ]
  refine wpP_take (i := 3) (oi := ?oi345016) (v := ?v345016) ?hi345016 (by kernel_rfl) (by kernel_rfl) (by kernel_rfl) (by kernel_rfl) ?hQ345016 ?hy345016 (by assumption) ?rest345016
  case hi345016 => (simp only [List.getElem?_toArray, List.getElem?_cons_succ, List.getElem?_cons_zero]; exact rfl)
  case hQ345016 => exact fun _ _ _ h => h
  case hy345016 => (refine Or.inl ⟨by kernel_rfl, ?_⟩; intro w hSw; (try dsimp only at hSw); go_simp; try (with_reducible rfl))
  try simp only [Act.put, List.setIfInBounds_toArray, List.set_cons_zero, List.set_cons_succ]
  refine wpP_take (i := 4) (oi := ?oi345017) (v := ?v345017) ?hi345017 (by kernel_rfl) (by kernel_rfl) (by kernel_rfl) (by kernel_rfl) ?hQ345017 ?hy345017 (by assumption) ?rest345017
  case hi345017 => (simp only [List.getElem?_toArray, List.getElem?_cons_succ, List.getElem?_cons_zero]; exact rfl)
  case hQ345017 => exact fun _ _ _ h => h
  case hy345017 => (refine Or.inl ⟨by kernel_rfl, ?_⟩; intro w hSw; (try dsimp only at hSw); go_simp; try (with_reducible rfl))
  try simp only [Act.put, List.setIfInBounds_toArray, List.set_cons_zero, List.set_cons_succ]
  refine wpP_take (i := 5) (oi := ?oi345018) (v := ?v345018) ?hi345018 (by kernel_rfl) (by kernel_rfl) (by kernel_rfl) (by kernel_rfl) ?hQ345018 ?hy345018 (by assumption) ?rest345018
  case hi345018 => (simp only [List.getElem?_toArray, List.getElem?_cons_succ, List.getElem?_cons_zero]; exact rfl)
  case hQ345018 => exact fun _ _ _ h => h
  case hy345018 => (refine Or.inl ⟨by kernel_rfl, ?_⟩; intro w hSw; (try dsimp only at hSw); go_simp; try (with_reducible rfl))
  try simp only [Act.put, List.setIfInBounds_toArray, List.set_cons_zero, List.set_cons_succ]
  refine wpP_take (i := 6) (oi := ?oi345019) (v := ?v345019) ?hi345019 (by kernel_rfl) (by kernel_rfl) (by kernel_rfl) (by kernel_rfl) ?hQ345019 ?hy345019 (by assumption) ?rest345019
  case hi345019 => (simp only [List.getElem?_toArray, List.getElem?_cons_succ, List.getElem?_cons_zero]; exact rfl)
  case hQ345019 => exact fun _ _ _ h => h
  case hy345019 => (refine Or.inl ⟨by kernel_rfl, ?_⟩; intro w hSw; (try dsimp only at hSw); go_simp; try (with_reducible rfl))
  try simp only [Act.put, List.setIfInBounds_toArray, List.set_cons_zero, List.set_cons_succ]
  refine wpP_take (i := 7) (oi := ?oi345020) (v := ?v345020) ?hi345020 (by kernel_rfl) (by kernel_rfl) (by kernel_rfl) (by kernel_rfl) ?hQ345020 ?hy345020 (by assumption) ?rest345020
  case hi345020 => (simp only [List.getElem?_toArray, List.getElem?_cons_succ, List.getElem?_cons_zero]; exact rfl)
  case hQ345020 => exact fun _ _ _ h => h
  case hy345020 => (refine Or.inl ⟨by kernel_rfl, ?_⟩; intro w hSw; (try dsimp only at hSw); go_simp; try (with_reducible rfl))
  try simp only [Act.put, List.setIfInBounds_toArray, List.set_cons_zero, List.set_cons_succ]
  refine wpP_take (i := 8) (oi := ?oi345021) (v := ?v345021) ?hi345021 (by kernel_rfl) (by kernel_rfl) (by kernel_rfl) (by kernel_rfl) ?hQ345021 ?hy345021 (by assumption) ?rest345021
  case hi345021 => (simp only [List.getElem?_toArray, List.getElem?_cons_succ, List.getElem?_cons_zero]; exact rfl)
  case hQ345021 => exact fun _ _ _ h => h
  case hy345021 => (refine Or.inl ⟨by kernel_rfl, ?_⟩; intro w hSw; (try dsimp only at hSw); go_simp; try (with_reducible rfl))
  try simp only [Act.put, List.setIfInBounds_toArray, List.set_cons_zero, List.set_cons_succ]
  refine wpP_take (i := 9) (oi := ?oi345022) (v := ?v345022) ?hi345022 (by kernel_rfl) (by kernel_rfl) (by kernel_rfl) (by kernel_rfl) ?hQ345022 ?hy345022 (by assumption) ?rest345022
  case hi345022 => (simp only [List.getElem?_toArray, List.getElem?_cons_succ, List.getElem?_cons_zero]; exact rfl)
  case hQ345022 => exact fun _ _ _ h => h
  case hy345022 => (refine Or.inl ⟨by kernel_rfl, ?_⟩; intro w hSw; (try dsimp only at hSw); go_simp; try (with_reducible rfl))
  try simp only [Act.put, List.setIfInBounds_toArray, List.set_cons_zero, List.set_cons_succ]
  refine wpP_take (i := 10) (oi := ?oi345023) (v := ?v345023) ?hi345023 (by kernel_rfl) (by kernel_rfl) (by kernel_rfl) (by kernel_rfl) ?hQ345023 ?hy345023 (by assumption) ?rest345023
  case hi345023 => (simp only [List.getElem?_toArray, List.getElem?_cons_succ, List.getElem?_cons_zero]; exact rfl)
  case hQ345023 => exact fun _ _ _ h => h
  case hy345023 => (refine Or.inl ⟨by kernel_rfl, ?_⟩; intro w hSw; (try dsimp only at hSw); go_simp; try (with_reducible rfl))
  try simp only [Act.put, List.setIfInBounds_toArray, List.set_cons_zero, List.set_cons_succ]
  refine wpP_take (i := 11) (oi := ?oi345024) (v := ?v345024) ?hi345024 (by kernel_rfl) (by kernel_rfl) (by kernel_rfl) (by kernel_rfl) ?hQ345024 ?hy345024 (by assumption) ?rest345024
  case hi345024 => (simp only [List.getElem?_toArray, List.getElem?_cons_succ, List.getElem?_cons_zero]; exact rfl)
  case hQ345024 => exact fun _ _ _ h => h
  case hy345024 => (refine Or.inl ⟨by kernel_rfl, ?_⟩; intro w hSw; (try dsimp only at hSw); go_simp; try (with_reducible rfl))
  try simp only [Act.put, List.setIfInBounds_toArray, List.set_cons_zero, List.set_cons_succ]
  refine wpP_done (by kernel_rfl) ?_ _
  go_wp2
  go_ret
  exact ⟨rfl, rfl⟩
end Go.Proofs.Ytacdohlhalnioaa
end

/- Contract: the document's inode of 64 bytes. -/
section
set_option linter.unusedSimpArgs false
set_option linter.unusedVariables false
set_option maxRecDepth 20000
namespace Go.Proofs.Ytacdohlhalnioaa
open Go.RowKit
attribute [local go_sem] Oper.semAt_some

theorem word_int (s : Blk) (j : Int) (w : World) (h0 : 0 ≤ j) (h : j.toNat + 1 < s.length) (hl : s.length ≤ 128) :
    Calls Try.prog 122 #[.string (mk s), .int .i64 j] w fun e w' => e = .returned (.int .i64 ((w2 s j.toNat : Nat) : Int)) ∧ w.drew = w' := by
  have := word_ok s j.toNat w h hl
  rwa [Int.toNat_of_nonneg h0] at this
theorem word_at (s : Blk) (i : Nat) (j : Int) (w : World) (hj : j = (i : Int)) (h : i + 1 < s.length) (hl : s.length ≤ 128) :
    Calls Try.prog 122 #[.string (mk s), .int .i64 j] w fun e w' => e = .returned (.int .i64 ((w2 s i : Nat) : Int)) ∧ w.drew = w' := by
  subst hj
  exact word_ok s i w h hl
theorem at_world {Q : Exit → Act → World → Prop} {e : Exit} {a : Act} {w : World} (R : World → Prop) (hR : R w) (h : ∀ W, R W → Q e a W) : Q e a w := h w hR
def stl (s : Blk) (k : Nat) : List Nat := (List.range k).foldl (fun l j => l.set (4 + j) (w2 s (8 + 2 * j))) [gb s 0, w2 s 2, gb s 1, (inoOf s).size, 0, 0, 0, 0, 0, 0, w2 s 20, w2 s 22]
theorem stl_succ (s : Blk) (k : Nat) : stl s (k + 1) = (stl s k).set (4 + k) (w2 s (8 + 2 * k)) := by simp [stl, List.range_succ]
theorem stl_len (s : Blk) (k : Nat) : (stl s k).length = 12 := by
  induction k with
  | zero => rfl
  | succ k ih => rw [stl_succ, List.length_set, ih]
theorem stl_all (s : Blk) : stl s 6 = (inoOf s).list := rfl
set_option maxHeartbeats 4000000 in
theorem rof18_ok (s : Blk) (w : World) (hs : s.length = 64) :
    Calls Try.prog 97 #[.string (mk s)] w fun e w' => e = .returned (.agg #[.int .i64 (((inoOf s).kind : Nat) : Int), .int .i64 (((inoOf s).links : Nat) : Int), .int .i64 (((inoOf s).owner : Nat) : Int), .int .i64 (((inoOf s).size : Nat) : Int), .int .i64 (((inoOf s).d0 : Nat) : Int), .int .i64 (((inoOf s).d1 : Nat) : Int), .int .i64 (((inoOf s).d2 : Nat) : Int), .int .i64 (((inoOf s).d3 : Nat) : Int), .int .i64 (((inoOf s).d4 : Nat) : Int), .int .i64 (((inoOf s).d5 : Nat) : Int), .int .i64 (((inoOf s).ind : Nat) : Int), .int .i64 (((inoOf s).ext : Nat) : Int)]) ∧ Below w.heap.size w w' := by
  have HS := Lib.hid hs
  have hl1 : 64 ≤ s.length := by omega
  have hw0 := wrap_i64 (gb s 0) (by have := gb_lt s 0; omega)
  have hw1 := wrap_i64 (gb s 1) (by have := gb_lt s 1; omega)
  have hz : (inoOf s).size = w2 s 4 + 65536 * w2 s 6 := rfl
  have hzi : (w2 s 4 : Int) + 65536 * (w2 s 6 : Int) = (((inoOf s).size : Nat) : Int) := by rw [hz]; omega
  have l6 := w2_lt s 6
  have l4 := w2_lt s 4
  have hm6 : IntKind.i64.wrap (65536 * (w2 s 6 : Int)) = 65536 * (w2 s 6 : Int) := by simp [IntKind.wrap, IntKind.bits, IntKind.signed]; omega
  have hms : IntKind.i64.wrap (((inoOf s).size : Nat) : Int) = (((inoOf s).size : Nat) : Int) := by rw [hz]; simp [IntKind.wrap, IntKind.bits, IntKind.signed]; omega
  have p0 : (0 : Int) < (s.length : Nat) := by omega
  have p1 : (1 : Int) < (s.length : Nat) := by omega
  have p0' : 0 < s.length := by omega
  have k1 := heap_alloc_lt (w.alloc (.cells #[.int .i64 0, .int .i64 0, .int .i64 0, .int .i64 0, .int .i64 0, .int .i64 0, .int .i64 0, .int .i64 0, .int .i64 0, .int .i64 0, .int .i64 0, .int .i64 0] 45)) (.cells #[.int .i64 ((gb s 0 : Nat) : Int), .int .i64 ((w2 s 2 : Nat) : Int), .int .i64 ((gb s 1 : Nat) : Int), .int .i64 (((inoOf s).size : Nat) : Int), .int .i64 0, .int .i64 0, .int .i64 0, .int .i64 0, .int .i64 0, .int .i64 0, .int .i64 ((w2 s 20 : Nat) : Int), .int .i64 ((w2 s 22 : Nat) : Int)] 45) _ _ (blk_new w _)
  have k2 := heap_alloc_at (w.alloc (.cells #[.int .i64 0, .int .i64 0, .int .i64 0, .int .i64 0, .int .i64 0, .int .i64 0, .int .i64 0, .int .i64 0, .int .i64 0, .int .i64 0, .int .i64 0, .int .i64 0] 45)) (.cells #[.int .i64 ((gb s 0 : Nat) : Int), .int .i64 ((w2 s 2 : Nat) : Int), .int .i64 ((gb s 1 : Nat) : Int), .int .i64 (((inoOf s).size : Nat) : Int), .int .i64 0, .int .i64 0, .int .i64 0, .int .i64 0, .int .i64 0, .int .i64 0, .int .i64 ((w2 s 20 : Nat) : Int), .int .i64 ((w2 s 22 : Nat) : Int)] 45) (w.heap.size + 1) (by simp)
  have k3 := (((Below.refl w.heap.size w).alloc (Nat.le_refl _) (.cells #[.int .i64 0, .int .i64 0, .int .i64 0, .int .i64 0, .int .i64 0, .int .i64 0, .int .i64 0, .int .i64 0, .int .i64 0, .int .i64 0, .int .i64 0, .int .i64 0] 45)).alloc (by simp) (.cells #[.int .i64 ((gb s 0 : Nat) : Int), .int .i64 ((w2 s 2 : Nat) : Int), .int .i64 ((gb s 1 : Nat) : Int), .int .i64 (((inoOf s).size : Nat) : Int), .int .i64 0, .int .i64 0, .int .i64 0, .int .i64 0, .int .i64 0, .int .i64 0, .int .i64 ((w2 s 20 : Nat) : Int), .int .i64 ((w2 s 22 : Nat) : Int)] 45)).drew.drew.drew.drew.drew.drew
  rw [show #[.int .i64 ((gb s 0 : Nat) : Int), .int .i64 ((w2 s 2 : Nat) : Int), .int .i64 ((gb s 1 : Nat) : Int), .int .i64 (((inoOf s).size : Nat) : Int), .int .i64 0, .int .i64 0, .int .i64 0, .int .i64 0, .int .i64 0, .int .i64 0, .int .i64 ((w2 s 20 : Nat) : Int), .int .i64 ((w2 s 22 : Nat) : Int)] = xcells (stl s 0) from rfl] at k2
  have K1 := Lib.hid k1
  have K2 := Lib.hid k2
  have K3 := Lib.hid k3
  clear k1 k2 k3
  go_enter Try.func97, Try.ntmps97
  clear hs hz
  go_wp2
  refine region_P (fun _ => True) [] (by kernel_rfl) ?_ (fun hHeld => ?_)
  · exact trivial
  refine wpP_take (i := 0) (oi := ?oi792001) (v := ?v792001) ?hi792001 (by kernel_rfl) (by kernel_rfl) (by kernel_rfl) (by kernel_rfl) ?hQ792001 ?hy792001 (by assumption) ?rest792001
  case hi792001 => (simp only [List.getElem?_toArray, List.getElem?_cons_succ, List.getElem?_cons_zero]; exact rfl)
  case hQ792001 => exact fun _ _ _ h => h
  case hy792001 => (refine Or.inl ⟨by kernel_rfl, ?_⟩; intro w hSw; (try dsimp only at hSw); go_simp; try (with_reducible rfl))
  try simp only [Act.put, List.setIfInBounds_toArray, List.set_cons_zero, List.set_cons_succ]
  refine wpP_take (i := 1) (oi := ?oi792002) (v := ?v792002) ?hi792002 (by kernel_rfl) (by kernel_rfl) (by kernel_rfl) (by kernel_rfl) ?hQ792002 ?hy792002 (by assumption) ?rest792002
  case hi792002 => (simp only [List.getElem?_toArray, List.getElem?_cons_succ, List.getElem?_cons_zero]; exact rfl)
  case hQ792002 => exact fun _ _ _ h => h
  case hy792002 => (refine Or.inl ⟨by kernel_rfl, ?_⟩; intro w hSw; (try dsimp only at hSw); go_simp; try (with_reducible rfl))
  try simp only [Act.put, List.setIfInBounds_toArray, List.set_cons_zero, List.set_cons_succ]
  refine wpP_take (i := 2) (oi := ?oi792003) (v := ?v792003) ?hi792003 (by kernel_rfl) (by kernel_rfl) (by kernel_rfl) (by kernel_rfl) ?hQ792003 ?hy792003 (by assumption) ?rest792003
  case hi792003 => (simp only [List.getElem?_toArray, List.getElem?_cons_succ, List.getElem?_cons_zero]; exact rfl)
  case hQ792003 => exact fun _ _ _ h => h
  case hy792003 => (refine Or.inl ⟨by kernel_rfl, ?_⟩; intro w hSw; (try dsimp only at hSw); go_simp; try (with_reducible rfl))
  try simp only [Act.put, List.setIfInBounds_toArray, List.set_cons_zero, List.set_cons_succ]
  refine wpP_take (i := 3) (oi := ?oi792004) (v := ?v792004) ?hi792004 (by kernel_rfl) (by kernel_rfl) (by kernel_rfl) (by kernel_rfl) ?hQ792004 ?hy792004 (by assumption) ?rest792004
  case hi792004 => (simp only [List.getElem?_toArray, List.getElem?_cons_succ, List.getElem?_cons_zero]; exact rfl)
  case hQ792004 => exact fun _ _ _ h => h
  case hy792004 => (refine Or.inl ⟨by kernel_rfl, ?_⟩; intro w hSw; (try dsimp only at hSw); go_simp; try (with_reducible rfl))
  try simp only [Act.put, List.setIfInBounds_toArray, List.set_cons_zero, List.set_cons_succ]
  refine wpP_take (i := 4) (oi := ?oi792005) (v := ?v792005) ?hi792005 (by kernel_rfl) (by kernel_rfl) (by kernel_rfl) (by kernel_rfl) ?hQ792005 ?hy792005 (by assumption) ?rest792005
  case hi792005 => (simp only [List.getElem?_toArray, List.getElem?_cons_succ, List.getElem?_cons_zero]; exact rfl)
  case hQ792005 => exact fun _ _ _ h => h
  case hy792005 => (refine Or.inl ⟨by kernel_rfl, ?_⟩; intro w hSw; (try dsimp only at hSw); go_simp; try (with_reducible rfl))
  try simp only [Act.put, List.setIfInBounds_toArray, List.set_cons_zero, List.set_cons_succ]
  refine wpP_take (i := 5) (oi := ?oi792006) (v := ?v792006) ?hi792006 (by kernel_rfl) (by kernel_rfl) (by kernel_rfl) (by kernel_rfl) ?hQ792006 ?hy792006 (by assumption) ?rest792006
  case hi792006 => (simp only [List.getElem?_toArray, List.getElem?_cons_succ, List.getElem?_cons_zero]; exact rfl)
  case hQ792006 => exact fun _ _ _ h => h
  case hy792006 => (refine Or.inl ⟨by kernel_rfl, ?_⟩; intro w hSw; (try dsimp only at hSw); go_simp; try (with_reducible rfl))
  try simp only [Act.put, List.setIfInBounds_toArray, List.set_cons_zero, List.set_cons_succ]
  refine wpP_take (i := 6) (oi := ?oi792007) (v := ?v792007) ?hi792007 (by kernel_rfl) (by kernel_rfl) (by kernel_rfl) (by kernel_rfl) ?hQ792007 ?hy792007 (by assumption) ?rest792007
  case hi792007 => (simp only [List.getElem?_toArray, List.getElem?_cons_succ, List.getElem?_cons_zero]; exact rfl)
  case hQ792007 => exact fun _ _ _ h => h
  case hy792007 => (refine Or.inl ⟨by kernel_rfl, ?_⟩; intro w hSw; (try dsimp only at hSw); go_simp; try (with_reducible rfl))
  try simp only [Act.put, List.setIfInBounds_toArray, List.set_cons_zero, List.set_cons_succ]
  refine wpP_take (i := 8) (oi := ?oi792008) (v := ?v792008) ?hi792008 (by kernel_rfl) (by kernel_rfl) (by kernel_rfl) (by kernel_rfl) ?hQ792008 ?hy792008 (by assumption) ?rest792008
  case hi792008 => (simp only [List.getElem?_toArray, List.getElem?_cons_succ, List.getElem?_cons_zero]; exact rfl)
  case hQ792008 => exact fun _ _ _ h => h
  case hy792008 => (refine Or.inl ⟨by kernel_rfl, ?_⟩; intro w hSw; (try dsimp only at hSw); go_simp; try (with_reducible rfl))
  try simp only [Act.put, List.setIfInBounds_toArray, List.set_cons_zero, List.set_cons_succ]
  refine wpP_take (i := 10) (oi := ?oi792009) (v := ?v792009) ?hi792009 (by kernel_rfl) (by kernel_rfl) (by kernel_rfl) (by kernel_rfl) ?hQ792009 ?hy792009 (by assumption) ?rest792009
  case hi792009 => (simp only [List.getElem?_toArray, List.getElem?_cons_succ, List.getElem?_cons_zero]; exact rfl)
  case hQ792009 => exact fun _ _ _ h => h
  case hy792009 => (refine Or.inl ⟨by kernel_rfl, ?_⟩; intro w hSw; (try dsimp only at hSw); go_simp; try (with_reducible rfl))
  try simp only [Act.put, List.setIfInBounds_toArray, List.set_cons_zero, List.set_cons_succ]
  refine wpP_take (i := 14) (oi := ?oi792010) (v := ?v792010) ?hi792010 (by kernel_rfl) (by kernel_rfl) (by kernel_rfl) (by kernel_rfl) ?hQ792010 ?hy792010 (by assumption) ?rest792010
  case hi792010 => (simp only [List.getElem?_toArray, List.getElem?_cons_succ, List.getElem?_cons_zero]; exact rfl)
  case hQ792010 => exact fun _ _ _ h => h
  case hy792010 => (refine Or.inl ⟨by kernel_rfl, ?_⟩; intro w hSw; (try dsimp only at hSw); go_simp; try (with_reducible rfl))
  try simp only [Act.put, List.setIfInBounds_toArray, List.set_cons_zero, List.set_cons_succ]
  refine wpP_take (i := 16) (oi := ?oi792011) (v := ?v792011) ?hi792011 (by kernel_rfl) (by kernel_rfl) (by kernel_rfl) (by kernel_rfl) ?hQ792011 ?hy792011 (by assumption) ?rest792011
  case hi792011 => (simp only [List.getElem?_toArray, List.getElem?_cons_succ, List.getElem?_cons_zero]; exact rfl)
  case hQ792011 => exact fun _ _ _ h => h
  case hy792011 => (refine Or.inl ⟨by kernel_rfl, ?_⟩; intro w hSw; (try dsimp only at hSw); go_simp; try (with_reducible rfl))
  try simp only [Act.put, List.setIfInBounds_toArray, List.set_cons_zero, List.set_cons_succ]
  refine wpP_ready (rs := [7, 19]) (by kernel_rfl) (by simp) ?_
  refine AllP.cons (o := ?o792012) ?ho792012 (fun K hK => ?ca792012) (AllP.cons (o := ?oo792012) ?hoo792012 (fun K hK => ?al792012) AllP.nil)
  case ho792012 => (simp only [List.getElem?_toArray, List.getElem?_cons_succ, List.getElem?_cons_zero]; exact rfl)
  case hoo792012 => (simp only [List.getElem?_toArray, List.getElem?_cons_succ, List.getElem?_cons_zero]; exact rfl)
  case' al792012 =>
    go_simp
    refine hK.out _ _ ?_ (fun hHeld => ?_)
    · exact trivial
    clear hK K
    try simp only [Act.put, List.setIfInBounds_toArray, List.set_cons_zero, List.set_cons_succ]
    refine wpP_ready (rs := [7]) (by kernel_rfl) (by simp) ?_
    refine AllP.cons (o := ?o792013) ?ho792013 (fun K hK => ?_) AllP.nil
    case ho792013 => (simp only [List.getElem?_toArray, List.getElem?_cons_succ, List.getElem?_cons_zero]; exact rfl)
    go_simp
    go_at_call 122
    refine (word_int s _ _ (by decide) (by have := HS.out; simp; omega) (by have := HS.out; omega)).mono ?_
    simp only [Int.reduceToNat]
    rintro e w3 ⟨rfl, rfl⟩
    refine hK.out _ _ ?_ (fun hHeld => ?_)
    · exact trivial
    clear hK K
    try simp only [Act.put, List.setIfInBounds_toArray, List.set_cons_zero, List.set_cons_succ]
    refine wpP_ready (rs := [9]) (by kernel_rfl) (by simp) ?_
    refine AllP.cons (o := ?o792014) ?ho792014 (fun K hK => ?_) AllP.nil
    case ho792014 => (simp only [List.getElem?_toArray, List.getElem?_cons_succ, List.getElem?_cons_zero]; exact rfl)
    go_simp
    go_at_call 122
    refine (word_int s _ _ (by decide) (by have := HS.out; simp; omega) (by have := HS.out; omega)).mono ?_
    simp only [Int.reduceToNat]
    rintro e w3 ⟨rfl, rfl⟩
    refine hK.out _ _ ?_ (fun hHeld => ?_)
    · exact trivial
    clear hK K
    try simp only [Act.put, List.setIfInBounds_toArray, List.set_cons_zero, List.set_cons_succ]
    refine wpP_ready (rs := [11]) (by kernel_rfl) (by simp) ?_
    refine AllP.cons (o := ?o792015) ?ho792015 (fun K hK => ?_) AllP.nil
    case ho792015 => (simp only [List.getElem?_toArray, List.getElem?_cons_succ, List.getElem?_cons_zero]; exact rfl)
    go_simp
    go_at_call 122
    refine (word_int s _ _ (by decide) (by have := HS.out; simp; omega) (by have := HS.out; omega)).mono ?_
    simp only [Int.reduceToNat]
    rintro e w3 ⟨rfl, rfl⟩
    refine hK.out _ _ ?_ (fun hHeld => ?_)
    · exact trivial
    clear hK K
    try simp only [Act.put, List.setIfInBounds_toArray, List.set_cons_zero, List.set_cons_succ]
    refine wpP_take (i := 12) (oi := ?oi792016) (v := ?v792016) ?hi792016 (by kernel_rfl) (by kernel_rfl) (by kernel_rfl) (by kernel_rfl) ?hQ792016 ?hy792016 (by assumption) ?rest792016
    case hi792016 => (simp only [List.getElem?_toArray, List.getElem?_cons_succ, List.getElem?_cons_zero]; exact rfl)
    case hQ792016 => exact fun _ _ _ h => h
    case hy792016 => (refine Or.inl ⟨by kernel_rfl, ?_⟩; intro w hSw; (try dsimp only at hSw); go_simp; try (with_reducible rfl))
    try simp only [Act.put, List.setIfInBounds_toArray, List.set_cons_zero, List.set_cons_succ]
    refine wpP_take (i := 13) (oi := ?oi792017) (v := ?v792017) ?hi792017 (by kernel_rfl) (by kernel_rfl) (by kernel_rfl) (by kernel_rfl) ?hQ792017 ?hy792017 (by assumption) ?rest792017
    case hi792017 => (simp only [List.getElem?_toArray, List.getElem?_cons_succ, List.getElem?_cons_zero]; exact rfl)
    case hQ792017 => exact fun _ _ _ h => h
    case hy792017 => (refine Or.inl ⟨by kernel_rfl, ?_⟩; intro w hSw; (try dsimp only at hSw); go_simp; try (with_reducible rfl))
    try simp only [Act.put, List.setIfInBounds_toArray, List.set_cons_zero, List.set_cons_succ]
    refine wpP_ready (rs := [15]) (by kernel_rfl) (by simp) ?_
    refine AllP.cons (o := ?o792018) ?ho792018 (fun K hK => ?_) AllP.nil
    case ho792018 => (simp only [List.getElem?_toArray, List.getElem?_cons_succ, List.getElem?_cons_zero]; exact rfl)
    go_simp
    go_at_call 122
    refine (word_int s _ _ (by decide) (by have := HS.out; simp; omega) (by have := HS.out; omega)).mono ?_
    simp only [Int.reduceToNat]
    rintro e w3 ⟨rfl, rfl⟩
    refine hK.out _ _ ?_ (fun hHeld => ?_)
    · exact trivial
    clear hK K
    try simp only [Act.put, List.setIfInBounds_toArray, List.set_cons_zero, List.set_cons_succ]
    refine wpP_ready (rs := [17]) (by kernel_rfl) (by simp) ?_
    refine AllP.cons (o := ?o792019) ?ho792019 (fun K hK => ?_) AllP.nil
    case ho792019 => (simp only [List.getElem?_toArray, List.getElem?_cons_succ, List.getElem?_cons_zero]; exact rfl)
    go_simp
    go_at_call 122
    refine (word_int s _ _ (by decide) (by have := HS.out; simp; omega) (by have := HS.out; omega)).mono ?_
    simp only [Int.reduceToNat]
    rintro e w3 ⟨rfl, rfl⟩
    refine hK.out _ _ ?_ (fun hHeld => ?_)
    · exact trivial
    clear hK K
    try simp only [Act.put, List.setIfInBounds_toArray, List.set_cons_zero, List.set_cons_succ]
    refine wpP_take (i := 18) (oi := ?oi792020) (v := ?v792020) ?hi792020 (by kernel_rfl) (by kernel_rfl) (by kernel_rfl) (by kernel_rfl) ?hQ792020 ?hy792020 (by assumption) ?rest792020
    case hi792020 => (simp only [List.getElem?_toArray, List.getElem?_cons_succ, List.getElem?_cons_zero]; exact rfl)
    case hQ792020 => exact fun _ _ _ h => h
    case hy792020 => (refine Or.inl ⟨by kernel_rfl, ?_⟩; intro w hSw; (try dsimp only at hSw); go_simp; try (with_reducible rfl))
    try simp only [Act.put, List.setIfInBounds_toArray, List.set_cons_zero, List.set_cons_succ]
    refine wpP_ready (rs := [20]) (by kernel_rfl) (by simp) ?_
    refine AllP.cons (o := ?o792021) ?ho792021 (fun K hK => ?_) AllP.nil
    case ho792021 => (simp only [List.getElem?_toArray, List.getElem?_cons_succ, List.getElem?_cons_zero]; exact rfl)
    go_simp
    refine hK.out _ _ ?_ (fun hHeld => ?_)
    · exact trivial
    clear hK K
    try simp only [Act.put, List.setIfInBounds_toArray, List.set_cons_zero, List.set_cons_succ]
    refine wpP_done (by kernel_rfl) ?_ _
  case' ca792012 =>
    go_simp
    go_at_call 122
    refine (word_int s _ _ (by decide) (by have := HS.out; simp; omega) (by have := HS.out; omega)).mono ?_
    simp only [Int.reduceToNat]
    rintro e w3 ⟨rfl, rfl⟩
    refine hK.out _ _ ?_ (fun hHeld => ?_)
    · exact trivial
    clear hK K
    try simp only [Act.put, List.setIfInBounds_toArray, List.set_cons_zero, List.set_cons_succ]
    refine wpP_ready (rs := [9, 19]) (by kernel_rfl) (by simp) ?_
    refine AllP.cons (o := ?o792022) ?ho792022 (fun K hK => ?ca792022) (AllP.cons (o := ?oo792022) ?hoo792022 (fun K hK => ?al792022) AllP.nil)
    case ho792022 => (simp only [List.getElem?_toArray, List.getElem?_cons_succ, List.getElem?_cons_zero]; exact rfl)
    case hoo792022 => (simp only [List.getElem?_toArray, List.getElem?_cons_succ, List.getElem?_cons_zero]; exact rfl)
    case' al792022 =>
      go_simp
      refine hK.out _ _ ?_ (fun hHeld => ?_)
      · exact trivial
      clear hK K
      try simp only [Act.put, List.setIfInBounds_toArray, List.set_cons_zero, List.set_cons_succ]
      refine wpP_ready (rs := [9]) (by kernel_rfl) (by simp) ?_
      refine AllP.cons (o := ?o792023) ?ho792023 (fun K hK => ?_) AllP.nil
      case ho792023 => (simp only [List.getElem?_toArray, List.getElem?_cons_succ, List.getElem?_cons_zero]; exact rfl)
      go_simp
      go_at_call 122
      refine (word_int s _ _ (by decide) (by have := HS.out; simp; omega) (by have := HS.out; omega)).mono ?_
      simp only [Int.reduceToNat]
      rintro e w3 ⟨rfl, rfl⟩
      refine hK.out _ _ ?_ (fun hHeld => ?_)
      · exact trivial
      clear hK K
      try simp only [Act.put, List.setIfInBounds_toArray, List.set_cons_zero, List.set_cons_succ]
      refine wpP_ready (rs := [11]) (by kernel_rfl) (by simp) ?_
      refine AllP.cons (o := ?o792024) ?ho792024 (fun K hK => ?_) AllP.nil
      case ho792024 => (simp only [List.getElem?_toArray, List.getElem?_cons_succ, List.getElem?_cons_zero]; exact rfl)
      go_simp
      go_at_call 122
      refine (word_int s _ _ (by decide) (by have := HS.out; simp; omega) (by have := HS.out; omega)).mono ?_
      simp only [Int.reduceToNat]
      rintro e w3 ⟨rfl, rfl⟩
      refine hK.out _ _ ?_ (fun hHeld => ?_)
      · exact trivial
      clear hK K
      try simp only [Act.put, List.setIfInBounds_toArray, List.set_cons_zero, List.set_cons_succ]
      refine wpP_take (i := 12) (oi := ?oi792025) (v := ?v792025) ?hi792025 (by kernel_rfl) (by kernel_rfl) (by kernel_rfl) (by kernel_rfl) ?hQ792025 ?hy792025 (by assumption) ?rest792025
      case hi792025 => (simp only [List.getElem?_toArray, List.getElem?_cons_succ, List.getElem?_cons_zero]; exact rfl)
      case hQ792025 => exact fun _ _ _ h => h
      case hy792025 => (refine Or.inl ⟨by kernel_rfl, ?_⟩; intro w hSw; (try dsimp only at hSw); go_simp; try (with_reducible rfl))
      try simp only [Act.put, List.setIfInBounds_toArray, List.set_cons_zero, List.set_cons_succ]
      refine wpP_take (i := 13) (oi := ?oi792026) (v := ?v792026) ?hi792026 (by kernel_rfl) (by kernel_rfl) (by kernel_rfl) (by kernel_rfl) ?hQ792026 ?hy792026 (by assumption) ?rest792026
      case hi792026 => (simp only [List.getElem?_toArray, List.getElem?_cons_succ, List.getElem?_cons_zero]; exact rfl)
      case hQ792026 => exact fun _ _ _ h => h
      case hy792026 => (refine Or.inl ⟨by kernel_rfl, ?_⟩; intro w hSw; (try dsimp only at hSw); go_simp; try (with_reducible rfl))
      try simp only [Act.put, List.setIfInBounds_toArray, List.set_cons_zero, List.set_cons_succ]
      refine wpP_ready (rs := [15]) (by kernel_rfl) (by simp) ?_
      refine AllP.cons (o := ?o792027) ?ho792027 (fun K hK => ?_) AllP.nil
      case ho792027 => (simp only [List.getElem?_toArray, List.getElem?_cons_succ, List.getElem?_cons_zero]; exact rfl)
      go_simp
      go_at_call 122
      refine (word_int s _ _ (by decide) (by have := HS.out; simp; omega) (by have := HS.out; omega)).mono ?_
      simp only [Int.reduceToNat]
      rintro e w3 ⟨rfl, rfl⟩
      refine hK.out _ _ ?_ (fun hHeld => ?_)
      · exact trivial
      clear hK K
      try simp only [Act.put, List.setIfInBounds_toArray, List.set_cons_zero, List.set_cons_succ]
      refine wpP_ready (rs := [17]) (by kernel_rfl) (by simp) ?_
      refine AllP.cons (o := ?o792028) ?ho792028 (fun K hK => ?_) AllP.nil
      case ho792028 => (simp only [List.getElem?_toArray, List.getElem?_cons_succ, List.getElem?_cons_zero]; exact rfl)
      go_simp
      go_at_call 122
      refine (word_int s _ _ (by decide) (by have := HS.out; simp; omega) (by have := HS.out; omega)).mono ?_
      simp only [Int.reduceToNat]
      rintro e w3 ⟨rfl, rfl⟩
      refine hK.out _ _ ?_ (fun hHeld => ?_)
      · exact trivial
      clear hK K
      try simp only [Act.put, List.setIfInBounds_toArray, List.set_cons_zero, List.set_cons_succ]
      refine wpP_take (i := 18) (oi := ?oi792029) (v := ?v792029) ?hi792029 (by kernel_rfl) (by kernel_rfl) (by kernel_rfl) (by kernel_rfl) ?hQ792029 ?hy792029 (by assumption) ?rest792029
      case hi792029 => (simp only [List.getElem?_toArray, List.getElem?_cons_succ, List.getElem?_cons_zero]; exact rfl)
      case hQ792029 => exact fun _ _ _ h => h
      case hy792029 => (refine Or.inl ⟨by kernel_rfl, ?_⟩; intro w hSw; (try dsimp only at hSw); go_simp; try (with_reducible rfl))
      try simp only [Act.put, List.setIfInBounds_toArray, List.set_cons_zero, List.set_cons_succ]
      refine wpP_ready (rs := [20]) (by kernel_rfl) (by simp) ?_
      refine AllP.cons (o := ?o792030) ?ho792030 (fun K hK => ?_) AllP.nil
      case ho792030 => (simp only [List.getElem?_toArray, List.getElem?_cons_succ, List.getElem?_cons_zero]; exact rfl)
      go_simp
      refine hK.out _ _ ?_ (fun hHeld => ?_)
      · exact trivial
      clear hK K
      try simp only [Act.put, List.setIfInBounds_toArray, List.set_cons_zero, List.set_cons_succ]
      refine wpP_done (by kernel_rfl) ?_ _
    case' ca792022 =>
      go_simp
      go_at_call 122
      refine (word_int s _ _ (by decide) (by have := HS.out; simp; omega) (by have := HS.out; omega)).mono ?_
      simp only [Int.reduceToNat]
      rintro e w3 ⟨rfl, rfl⟩
      refine hK.out _ _ ?_ (fun hHeld => ?_)
      · exact trivial
      clear hK K
      try simp only [Act.put, List.setIfInBounds_toArray, List.set_cons_zero, List.set_cons_succ]
      refine wpP_ready (rs := [11, 19]) (by kernel_rfl) (by simp) ?_
      refine AllP.cons (o := ?o792031) ?ho792031 (fun K hK => ?ca792031) (AllP.cons (o := ?oo792031) ?hoo792031 (fun K hK => ?al792031) AllP.nil)
      case ho792031 => (simp only [List.getElem?_toArray, List.getElem?_cons_succ, List.getElem?_cons_zero]; exact rfl)
      case hoo792031 => (simp only [List.getElem?_toArray, List.getElem?_cons_succ, List.getElem?_cons_zero]; exact rfl)
      case' al792031 =>
        go_simp
        refine hK.out _ _ ?_ (fun hHeld => ?_)
        · exact trivial
        clear hK K
        try simp only [Act.put, List.setIfInBounds_toArray, List.set_cons_zero, List.set_cons_succ]
        refine wpP_ready (rs := [11]) (by kernel_rfl) (by simp) ?_
        refine AllP.cons (o := ?o792032) ?ho792032 (fun K hK => ?_) AllP.nil
        case ho792032 => (simp only [List.getElem?_toArray, List.getElem?_cons_succ, List.getElem?_cons_zero]; exact rfl)
        go_simp
        go_at_call 122
        refine (word_int s _ _ (by decide) (by have := HS.out; simp; omega) (by have := HS.out; omega)).mono ?_
        simp only [Int.reduceToNat]
        rintro e w3 ⟨rfl, rfl⟩
        refine hK.out _ _ ?_ (fun hHeld => ?_)
        · exact trivial
        clear hK K
        try simp only [Act.put, List.setIfInBounds_toArray, List.set_cons_zero, List.set_cons_succ]
        refine wpP_take (i := 12) (oi := ?oi792033) (v := ?v792033) ?hi792033 (by kernel_rfl) (by kernel_rfl) (by kernel_rfl) (by kernel_rfl) ?hQ792033 ?hy792033 (by assumption) ?rest792033
        case hi792033 => (simp only [List.getElem?_toArray, List.getElem?_cons_succ, List.getElem?_cons_zero]; exact rfl)
        case hQ792033 => exact fun _ _ _ h => h
        case hy792033 => (refine Or.inl ⟨by kernel_rfl, ?_⟩; intro w hSw; (try dsimp only at hSw); go_simp; try (with_reducible rfl))
        try simp only [Act.put, List.setIfInBounds_toArray, List.set_cons_zero, List.set_cons_succ]
        refine wpP_take (i := 13) (oi := ?oi792034) (v := ?v792034) ?hi792034 (by kernel_rfl) (by kernel_rfl) (by kernel_rfl) (by kernel_rfl) ?hQ792034 ?hy792034 (by assumption) ?rest792034
        case hi792034 => (simp only [List.getElem?_toArray, List.getElem?_cons_succ, List.getElem?_cons_zero]; exact rfl)
        case hQ792034 => exact fun _ _ _ h => h
        case hy792034 => (refine Or.inl ⟨by kernel_rfl, ?_⟩; intro w hSw; (try dsimp only at hSw); go_simp; try (with_reducible rfl))
        try simp only [Act.put, List.setIfInBounds_toArray, List.set_cons_zero, List.set_cons_succ]
        refine wpP_ready (rs := [15]) (by kernel_rfl) (by simp) ?_
        refine AllP.cons (o := ?o792035) ?ho792035 (fun K hK => ?_) AllP.nil
        case ho792035 => (simp only [List.getElem?_toArray, List.getElem?_cons_succ, List.getElem?_cons_zero]; exact rfl)
        go_simp
        go_at_call 122
        refine (word_int s _ _ (by decide) (by have := HS.out; simp; omega) (by have := HS.out; omega)).mono ?_
        simp only [Int.reduceToNat]
        rintro e w3 ⟨rfl, rfl⟩
        refine hK.out _ _ ?_ (fun hHeld => ?_)
        · exact trivial
        clear hK K
        try simp only [Act.put, List.setIfInBounds_toArray, List.set_cons_zero, List.set_cons_succ]
        refine wpP_ready (rs := [17]) (by kernel_rfl) (by simp) ?_
        refine AllP.cons (o := ?o792036) ?ho792036 (fun K hK => ?_) AllP.nil
        case ho792036 => (simp only [List.getElem?_toArray, List.getElem?_cons_succ, List.getElem?_cons_zero]; exact rfl)
        go_simp
        go_at_call 122
        refine (word_int s _ _ (by decide) (by have := HS.out; simp; omega) (by have := HS.out; omega)).mono ?_
        simp only [Int.reduceToNat]
        rintro e w3 ⟨rfl, rfl⟩
        refine hK.out _ _ ?_ (fun hHeld => ?_)
        · exact trivial
        clear hK K
        try simp only [Act.put, List.setIfInBounds_toArray, List.set_cons_zero, List.set_cons_succ]
        refine wpP_take (i := 18) (oi := ?oi792037) (v := ?v792037) ?hi792037 (by kernel_rfl) (by kernel_rfl) (by kernel_rfl) (by kernel_rfl) ?hQ792037 ?hy792037 (by assumption) ?rest792037
        case hi792037 => (simp only [List.getElem?_toArray, List.getElem?_cons_succ, List.getElem?_cons_zero]; exact rfl)
        case hQ792037 => exact fun _ _ _ h => h
        case hy792037 => (refine Or.inl ⟨by kernel_rfl, ?_⟩; intro w hSw; (try dsimp only at hSw); go_simp; try (with_reducible rfl))
        try simp only [Act.put, List.setIfInBounds_toArray, List.set_cons_zero, List.set_cons_succ]
        refine wpP_ready (rs := [20]) (by kernel_rfl) (by simp) ?_
        refine AllP.cons (o := ?o792038) ?ho792038 (fun K hK => ?_) AllP.nil
        case ho792038 => (simp only [List.getElem?_toArray, List.getElem?_cons_succ, List.getElem?_cons_zero]; exact rfl)
        go_simp
        refine hK.out _ _ ?_ (fun hHeld => ?_)
        · exact trivial
        clear hK K
        try simp only [Act.put, List.setIfInBounds_toArray, List.set_cons_zero, List.set_cons_succ]
        refine wpP_done (by kernel_rfl) ?_ _
      case' ca792031 =>
        go_simp
        go_at_call 122
        refine (word_int s _ _ (by decide) (by have := HS.out; simp; omega) (by have := HS.out; omega)).mono ?_
        simp only [Int.reduceToNat]
        rintro e w3 ⟨rfl, rfl⟩
        refine hK.out _ _ ?_ (fun hHeld => ?_)
        · exact trivial
        clear hK K
        try simp only [Act.put, List.setIfInBounds_toArray, List.set_cons_zero, List.set_cons_succ]
        refine wpP_take (i := 12) (oi := ?oi792039) (v := ?v792039) ?hi792039 (by kernel_rfl) (by kernel_rfl) (by kernel_rfl) (by kernel_rfl) ?hQ792039 ?hy792039 (by assumption) ?rest792039
        case hi792039 => (simp only [List.getElem?_toArray, List.getElem?_cons_succ, List.getElem?_cons_zero]; exact rfl)
        case hQ792039 => exact fun _ _ _ h => h
        case hy792039 => (refine Or.inl ⟨by kernel_rfl, ?_⟩; intro w hSw; (try dsimp only at hSw); go_simp; try (with_reducible rfl))
        try simp only [Act.put, List.setIfInBounds_toArray, List.set_cons_zero, List.set_cons_succ]
        refine wpP_take (i := 13) (oi := ?oi792040) (v := ?v792040) ?hi792040 (by kernel_rfl) (by kernel_rfl) (by kernel_rfl) (by kernel_rfl) ?hQ792040 ?hy792040 (by assumption) ?rest792040
        case hi792040 => (simp only [List.getElem?_toArray, List.getElem?_cons_succ, List.getElem?_cons_zero]; exact rfl)
        case hQ792040 => exact fun _ _ _ h => h
        case hy792040 => (refine Or.inl ⟨by kernel_rfl, ?_⟩; intro w hSw; (try dsimp only at hSw); go_simp; try (with_reducible rfl))
        try simp only [Act.put, List.setIfInBounds_toArray, List.set_cons_zero, List.set_cons_succ]
        refine wpP_ready (rs := [15, 19]) (by kernel_rfl) (by simp) ?_
        refine AllP.cons (o := ?o792041) ?ho792041 (fun K hK => ?ca792041) (AllP.cons (o := ?oo792041) ?hoo792041 (fun K hK => ?al792041) AllP.nil)
        case ho792041 => (simp only [List.getElem?_toArray, List.getElem?_cons_succ, List.getElem?_cons_zero]; exact rfl)
        case hoo792041 => (simp only [List.getElem?_toArray, List.getElem?_cons_succ, List.getElem?_cons_zero]; exact rfl)
        case' al792041 =>
          go_simp
          refine hK.out _ _ ?_ (fun hHeld => ?_)
          · exact trivial
          clear hK K
          try simp only [Act.put, List.setIfInBounds_toArray, List.set_cons_zero, List.set_cons_succ]
          refine wpP_ready (rs := [15]) (by kernel_rfl) (by simp) ?_
          refine AllP.cons (o := ?o792042) ?ho792042 (fun K hK => ?_) AllP.nil
          case ho792042 => (simp only [List.getElem?_toArray, List.getElem?_cons_succ, List.getElem?_cons_zero]; exact rfl)
          go_simp
          go_at_call 122
          refine (word_int s _ _ (by decide) (by have := HS.out; simp; omega) (by have := HS.out; omega)).mono ?_
          simp only [Int.reduceToNat]
          rintro e w3 ⟨rfl, rfl⟩
          refine hK.out _ _ ?_ (fun hHeld => ?_)
          · exact trivial
          clear hK K
          try simp only [Act.put, List.setIfInBounds_toArray, List.set_cons_zero, List.set_cons_succ]
          refine wpP_ready (rs := [17]) (by kernel_rfl) (by simp) ?_
          refine AllP.cons (o := ?o792043) ?ho792043 (fun K hK => ?_) AllP.nil
          case ho792043 => (simp only [List.getElem?_toArray, List.getElem?_cons_succ, List.getElem?_cons_zero]; exact rfl)
          go_simp
          go_at_call 122
          refine (word_int s _ _ (by decide) (by have := HS.out; simp; omega) (by have := HS.out; omega)).mono ?_
          simp only [Int.reduceToNat]
          rintro e w3 ⟨rfl, rfl⟩
          refine hK.out _ _ ?_ (fun hHeld => ?_)
          · exact trivial
          clear hK K
          try simp only [Act.put, List.setIfInBounds_toArray, List.set_cons_zero, List.set_cons_succ]
          refine wpP_take (i := 18) (oi := ?oi792044) (v := ?v792044) ?hi792044 (by kernel_rfl) (by kernel_rfl) (by kernel_rfl) (by kernel_rfl) ?hQ792044 ?hy792044 (by assumption) ?rest792044
          case hi792044 => (simp only [List.getElem?_toArray, List.getElem?_cons_succ, List.getElem?_cons_zero]; exact rfl)
          case hQ792044 => exact fun _ _ _ h => h
          case hy792044 => (refine Or.inl ⟨by kernel_rfl, ?_⟩; intro w hSw; (try dsimp only at hSw); go_simp; try (with_reducible rfl))
          try simp only [Act.put, List.setIfInBounds_toArray, List.set_cons_zero, List.set_cons_succ]
          refine wpP_ready (rs := [20]) (by kernel_rfl) (by simp) ?_
          refine AllP.cons (o := ?o792045) ?ho792045 (fun K hK => ?_) AllP.nil
          case ho792045 => (simp only [List.getElem?_toArray, List.getElem?_cons_succ, List.getElem?_cons_zero]; exact rfl)
          go_simp
          refine hK.out _ _ ?_ (fun hHeld => ?_)
          · exact trivial
          clear hK K
          try simp only [Act.put, List.setIfInBounds_toArray, List.set_cons_zero, List.set_cons_succ]
          refine wpP_done (by kernel_rfl) ?_ _
        case' ca792041 =>
          go_simp
          go_at_call 122
          refine (word_int s _ _ (by decide) (by have := HS.out; simp; omega) (by have := HS.out; omega)).mono ?_
          simp only [Int.reduceToNat]
          rintro e w3 ⟨rfl, rfl⟩
          refine hK.out _ _ ?_ (fun hHeld => ?_)
          · exact trivial
          clear hK K
          try simp only [Act.put, List.setIfInBounds_toArray, List.set_cons_zero, List.set_cons_succ]
          refine wpP_ready (rs := [17, 19]) (by kernel_rfl) (by simp) ?_
          refine AllP.cons (o := ?o792046) ?ho792046 (fun K hK => ?ca792046) (AllP.cons (o := ?oo792046) ?hoo792046 (fun K hK => ?al792046) AllP.nil)
          case ho792046 => (simp only [List.getElem?_toArray, List.getElem?_cons_succ, List.getElem?_cons_zero]; exact rfl)
          case hoo792046 => (simp only [List.getElem?_toArray, List.getElem?_cons_succ, List.getElem?_cons_zero]; exact rfl)
          case' al792046 =>
            go_simp
            refine hK.out _ _ ?_ (fun hHeld => ?_)
            · exact trivial
            clear hK K
            try simp only [Act.put, List.setIfInBounds_toArray, List.set_cons_zero, List.set_cons_succ]
            refine wpP_ready (rs := [17]) (by kernel_rfl) (by simp) ?_
            refine AllP.cons (o := ?o792047) ?ho792047 (fun K hK => ?_) AllP.nil
            case ho792047 => (simp only [List.getElem?_toArray, List.getElem?_cons_succ, List.getElem?_cons_zero]; exact rfl)
            go_simp
            go_at_call 122
            refine (word_int s _ _ (by decide) (by have := HS.out; simp; omega) (by have := HS.out; omega)).mono ?_
            simp only [Int.reduceToNat]
            rintro e w3 ⟨rfl, rfl⟩
            refine hK.out _ _ ?_ (fun hHeld => ?_)
            · exact trivial
            clear hK K
            try simp only [Act.put, List.setIfInBounds_toArray, List.set_cons_zero, List.set_cons_succ]
            refine wpP_take (i := 18) (oi := ?oi792048) (v := ?v792048) ?hi792048 (by kernel_rfl) (by kernel_rfl) (by kernel_rfl) (by kernel_rfl) ?hQ792048 ?hy792048 (by assumption) ?rest792048
            case hi792048 => (simp only [List.getElem?_toArray, List.getElem?_cons_succ, List.getElem?_cons_zero]; exact rfl)
            case hQ792048 => exact fun _ _ _ h => h
            case hy792048 => (refine Or.inl ⟨by kernel_rfl, ?_⟩; intro w hSw; (try dsimp only at hSw); go_simp; try (with_reducible rfl))
            try simp only [Act.put, List.setIfInBounds_toArray, List.set_cons_zero, List.set_cons_succ]
            refine wpP_ready (rs := [20]) (by kernel_rfl) (by simp) ?_
            refine AllP.cons (o := ?o792049) ?ho792049 (fun K hK => ?_) AllP.nil
            case ho792049 => (simp only [List.getElem?_toArray, List.getElem?_cons_succ, List.getElem?_cons_zero]; exact rfl)
            go_simp
            refine hK.out _ _ ?_ (fun hHeld => ?_)
            · exact trivial
            clear hK K
            try simp only [Act.put, List.setIfInBounds_toArray, List.set_cons_zero, List.set_cons_succ]
            refine wpP_done (by kernel_rfl) ?_ _
          case' ca792046 =>
            go_simp
            go_at_call 122
            refine (word_int s _ _ (by decide) (by have := HS.out; simp; omega) (by have := HS.out; omega)).mono ?_
            simp only [Int.reduceToNat]
            rintro e w3 ⟨rfl, rfl⟩
            refine hK.out _ _ ?_ (fun hHeld => ?_)
            · exact trivial
            clear hK K
            try simp only [Act.put, List.setIfInBounds_toArray, List.set_cons_zero, List.set_cons_succ]
            refine wpP_take (i := 18) (oi := ?oi792050) (v := ?v792050) ?hi792050 (by kernel_rfl) (by kernel_rfl) (by kernel_rfl) (by kernel_rfl) ?hQ792050 ?hy792050 (by assumption) ?rest792050
            case hi792050 => (simp only [List.getElem?_toArray, List.getElem?_cons_succ, List.getElem?_cons_zero]; exact rfl)
            case hQ792050 => exact fun _ _ _ h => h
            case hy792050 => (refine Or.inl ⟨by kernel_rfl, ?_⟩; intro w hSw; (try dsimp only at hSw); go_simp; try (with_reducible rfl))
            try simp only [Act.put, List.setIfInBounds_toArray, List.set_cons_zero, List.set_cons_succ]
            refine wpP_ready (rs := [19]) (by kernel_rfl) (by simp) ?_
            refine AllP.cons (o := ?o792051) ?ho792051 (fun K hK => ?_) AllP.nil
            case ho792051 => (simp only [List.getElem?_toArray, List.getElem?_cons_succ, List.getElem?_cons_zero]; exact rfl)
            go_simp
            refine hK.out _ _ ?_ (fun hHeld => ?_)
            · exact trivial
            clear hK K
            try simp only [Act.put, List.setIfInBounds_toArray, List.set_cons_zero, List.set_cons_succ]
            refine wpP_ready (rs := [20]) (by kernel_rfl) (by simp) ?_
            refine AllP.cons (o := ?o792052) ?ho792052 (fun K hK => ?_) AllP.nil
            case ho792052 => (simp only [List.getElem?_toArray, List.getElem?_cons_succ, List.getElem?_cons_zero]; exact rfl)
            go_simp
            refine hK.out _ _ ?_ (fun hHeld => ?_)
            · exact trivial
            clear hK K
            try simp only [Act.put, List.setIfInBounds_toArray, List.set_cons_zero, List.set_cons_succ]
            refine wpP_done (by kernel_rfl) ?_ _
  all_goals
    refine at_world (fun W => W.heap[w.heap.size]? = some (.cells #[.int .i64 0, .int .i64 0, .int .i64 0, .int .i64 0, .int .i64 0, .int .i64 0, .int .i64 0, .int .i64 0, .int .i64 0, .int .i64 0, .int .i64 0, .int .i64 0] 45 (0, 0)) ∧ W.heap[w.heap.size + 1]? = some (.cells (xcells (stl s 0)) 45 (0, 0)) ∧ Below w.heap.size w W) ?_ ?_
    · exact ⟨K1.out, K2.out, K3.out⟩
    · rintro W ⟨e1, e2, e3⟩
      have E1 := Lib.hid e1
      have E2 := Lib.hid e2
      have E3 := Lib.hid e3
      clear e1 e2 e3
      go_wp2
      go_loopw [4] (fun iv wr => ∃ k : Nat, k ≤ 6 ∧ iv = .int .i64 k ∧ Hid (wr.heap[w.heap.size]? = some (.cells #[.int .i64 0, .int .i64 0, .int .i64 0, .int .i64 0, .int .i64 0, .int .i64 0, .int .i64 0, .int .i64 0, .int .i64 0, .int .i64 0, .int .i64 0, .int .i64 0] 45 (0, 0))) ∧ Hid (wr.heap[w.heap.size + 1]? = some (.cells (xcells (stl s k)) 45 (0, 0))) ∧ Hid (Below w.heap.size w wr)) (fun iv _ => 6 - (intOf iv).toNat)
      case atStart => exact ⟨0, by omega, rfl, E1, E2, E3⟩
      case round =>
        obtain ⟨k, hk, rfl, e1, e2, e3⟩ := hrel
        by_cases hlt : k < 6
        · have hfr := free_of e2.out (4 + k)
          have hce : wr.cell? ⟨w.heap.size + 1, 4 + k, none⟩ = some (.int .i64 (((stl s k).getD (4 + k) 0 : Nat) : Int)) := by rw [cell_at e2.out, xcells_get _ _ (by rw [stl_len]; omega)]
          have hki : (k : Int) < 6 := by omega
          go_wp2_with (go_at_call 122; refine (word_at s (8 + 2 * k) _ _ (by omega) (by omega) (by have := HS.out; omega)).mono ?_; rintro e w3 ⟨rfl, rfl⟩)
          refine ⟨⟨k + 1, by omega, by go_num, ?_, ?_, ?_⟩, by simp only [intOf]; omega⟩
          · exact blk_set_other e1.out (by omega) _ _
          · have := blk_set e2.out (4 + k) (.int .i64 ((w2 s (8 + 2 * k) : Nat) : Int))
            rw [xcells_set, ← stl_succ] at this
            exact this
          · exact below_set e3.out.drew (by omega)
        · obtain rfl : k = 6 := by omega
          have h2 := e2.out
          rw [stl_all] at h2
          obtain ⟨q0, q1, q2, q3, q4, q5, q6, q7, q8, q9, q10, q11⟩ := cells12 (a0 := .int .i64 (((inoOf s).kind : Nat) : Int)) h2
          obtain ⟨r0, r1, r2, r3, r4, r5, r6, r7, r8, r9, r10, r11⟩ := cells12 (a0 := .int .i64 0) e1.out
          obtain ⟨f0, f1, f2, f3, f4, f5, f6, f7, f8, f9, f10, f11⟩ := frees12 e1.out
          clear h2
          go_wp2
          have hbf := blk_set12 (b0 := .int .i64 0) (a0 := .int .i64 (((inoOf s).kind : Nat) : Int)) (a1 := .int .i64 (((inoOf s).links : Nat) : Int)) (a2 := .int .i64 (((inoOf s).owner : Nat) : Int)) (a3 := .int .i64 (((inoOf s).size : Nat) : Int)) (a4 := .int .i64 (((inoOf s).d0 : Nat) : Int)) (a5 := .int .i64 (((inoOf s).d1 : Nat) : Int)) (a6 := .int .i64 (((inoOf s).d2 : Nat) : Int)) (a7 := .int .i64 (((inoOf s).d3 : Nat) : Int)) (a8 := .int .i64 (((inoOf s).d4 : Nat) : Int)) (a9 := .int .i64 (((inoOf s).d5 : Nat) : Int)) (a10 := .int .i64 (((inoOf s).ind : Nat) : Int)) (a11 := .int .i64 (((inoOf s).ext : Nat) : Int)) e1.out
          obtain ⟨c0, c1, c2, c3, c4, c5, c6, c7, c8, c9, c10, c11⟩ := cells12 hbf
          refine bodyPost_ret (v := .agg #[.int .i64 (((inoOf s).kind : Nat) : Int), .int .i64 (((inoOf s).links : Nat) : Int), .int .i64 (((inoOf s).owner : Nat) : Int), .int .i64 (((inoOf s).size : Nat) : Int), .int .i64 (((inoOf s).d0 : Nat) : Int), .int .i64 (((inoOf s).d1 : Nat) : Int), .int .i64 (((inoOf s).d2 : Nat) : Int), .int .i64 (((inoOf s).d3 : Nat) : Int), .int .i64 (((inoOf s).d4 : Nat) : Int), .int .i64 (((inoOf s).d5 : Nat) : Int), .int .i64 (((inoOf s).ind : Nat) : Int), .int .i64 (((inoOf s).ext : Nat) : Int)]) (by simp [results, Try.results97, go_sem, c0, c1, c2, c3, c4, c5, c6, c7, c8, c9, c10, c11]) rfl ⟨rfl, ?_⟩
          exact below_set12 e3.out (Nat.le_refl _)
end Go.Proofs.Ytacdohlhalnioaa
end

/- Contracts: an inode, where data begin, a block's number (the document's). -/
section
set_option linter.unusedSimpArgs false
set_option linter.unusedVariables false
set_option maxRecDepth 20000
namespace Go.Proofs.Ytacdohlhalnioaa
open Go.RowKit
attribute [local go_sem] Oper.semAt_some

theorem rof18_as (t s : Blk) (w : World) (ht : t = s) (hs : s.length = 64) :
    Calls Try.prog 97 #[.string (mk t)] w fun e w' => e = .returned (.agg #[.int .i64 (((inoOf s).kind : Nat) : Int), .int .i64 (((inoOf s).links : Nat) : Int), .int .i64 (((inoOf s).owner : Nat) : Int), .int .i64 (((inoOf s).size : Nat) : Int), .int .i64 (((inoOf s).d0 : Nat) : Int), .int .i64 (((inoOf s).d1 : Nat) : Int), .int .i64 (((inoOf s).d2 : Nat) : Int), .int .i64 (((inoOf s).d3 : Nat) : Int), .int .i64 (((inoOf s).d4 : Nat) : Int), .int .i64 (((inoOf s).d5 : Nat) : Int), .int .i64 (((inoOf s).ind : Nat) : Int), .int .i64 (((inoOf s).ext : Nat) : Int)]) ∧ Below w.heap.size w w' := by
  subst ht
  exact rof18_ok t w hs
set_option maxHeartbeats 2000000 in
theorem rget18_ok (A : Option Addr) (c : Nat) (v : Vol) (n : Nat) (w : World) (hr : RS w A v) (hv : okV v = true) (h1 : 1 ≤ n) (h2 : n ≤ inosV v) :
    Calls Try.prog 55 #[.slice A v.length c, .int .i64 n] w fun e w' => e = .returned (.tuple #[.agg #[.int .i64 (((inoV v n).kind : Nat) : Int), .int .i64 (((inoV v n).links : Nat) : Int), .int .i64 (((inoV v n).owner : Nat) : Int), .int .i64 (((inoV v n).size : Nat) : Int), .int .i64 (((inoV v n).d0 : Nat) : Int), .int .i64 (((inoV v n).d1 : Nat) : Int), .int .i64 (((inoV v n).d2 : Nat) : Int), .int .i64 (((inoV v n).d3 : Nat) : Int), .int .i64 (((inoV v n).d4 : Nat) : Int), .int .i64 (((inoV v n).d5 : Nat) : Int), .int .i64 (((inoV v n).ind : Nat) : Int), .int .i64 (((inoV v n).ext : Nat) : Int)], .int .i64 0]) ∧ Below w.heap.size w w' := by
  obtain ⟨hl, h128, hs⟩ := slot_facts hv h1 h2
  have hsd : slot v n = ((bk v (3 + (n - 1) / 2)).drop ((n - 1) % 2 * 64)).take 64 := rfl
  have hi := (okV_iff.1 hv).ihi
  rw [inoV]
  have hn0 : (0 : Int) ≤ (n : Int) - 1 := by omega
  have ho1 : ((n : Int) - 1).tmod 2 * 64 = (((n - 1) % 2 * 64 : Nat) : Int) := by rw [Int.tmod_eq_emod_of_nonneg hn0]; omega
  have ho2 : ((n : Int) - 1) % 2 * 64 = (((n - 1) % 2 * 64 : Nat) : Int) := by omega
  have hq1 : (3 : Int) + ((n : Int) - 1) / 2 = ((3 + (n - 1) / 2 : Nat) : Int) := by omega
  have ho : (n - 1) % 2 * 64 ≤ 64 := by omega
  generalize slot v n = s at *
  generalize (n - 1) % 2 * 64 = o at *
  generalize 3 + (n - 1) / 2 = B at *
  have HV := Lib.hid hv
  have HRR := Lib.hid hr
  obtain ⟨bA, oA, rfl, hbA, hc⟩ := hr.open_ (by omega)
  have hcB := hc B hl
  have HS := Lib.hid hsd
  clear hr hc hv hsd
  go_enter Try.func55, Try.ntmps55
  go_wp2_with (first
    | (go_at_call 46; refine (rof_ok _ _ _ _ (HRR.out.below ((Below.refl _ _).alloc (Nat.le_refl _) _)) HV.out).mono ?_; rintro e w1 ⟨rfl, hb1⟩; have hb2 := below_keep ((Below.refl _ w).alloc (Nat.le_refl _) _) (Nat.le_refl _) hb1; have B2 := Lib.hid (hb2.alloc hb2.size (.cells #[.int .i64 v.length, .int .i64 (inosV v), .int .i64 1, .int .i64 2, .int .i64 3, .int .i64 (3 + ((inosV v : Nat) + 1 : Int) / 2)] 66)); have d1 := cell_keep hcB B2.out; have q1 := blk_keep (blk_keep (blk_new w _) hb1) ((Below.refl _ w1).alloc (Nat.le_refl _) (.cells #[.int .i64 v.length, .int .i64 (inosV v), .int .i64 1, .int .i64 2, .int .i64 3, .int .i64 (3 + ((inosV v : Nat) + 1 : Int) / 2)] 66)); have Q1 := Lib.hid q1; clear q1 hb1 hb2)
    | (go_at_call 97; refine (rof18_as _ s _ HS.out.symm hs).mono ?_; rintro e w2 ⟨rfl, hb3⟩; have q2 := blk_keep Q1.out hb3; obtain ⟨c0, c1, c2, c3, c4, c5, c6, c7, c8, c9, c10, c11⟩ := cells12 q2; obtain ⟨f0, f1, f2, f3, f4, f5, f6, f7, f8, f9, f10, f11⟩ := frees12 q2; have Q2 := Lib.hid q2; clear q2))
  have hbf := blk_set12 (b0 := .int .i64 0) (a0 := .int .i64 (((inoOf s).kind : Nat) : Int)) (a1 := .int .i64 (((inoOf s).links : Nat) : Int)) (a2 := .int .i64 (((inoOf s).owner : Nat) : Int)) (a3 := .int .i64 (((inoOf s).size : Nat) : Int)) (a4 := .int .i64 (((inoOf s).d0 : Nat) : Int)) (a5 := .int .i64 (((inoOf s).d1 : Nat) : Int)) (a6 := .int .i64 (((inoOf s).d2 : Nat) : Int)) (a7 := .int .i64 (((inoOf s).d3 : Nat) : Int)) (a8 := .int .i64 (((inoOf s).d4 : Nat) : Int)) (a9 := .int .i64 (((inoOf s).d5 : Nat) : Int)) (a10 := .int .i64 (((inoOf s).ind : Nat) : Int)) (a11 := .int .i64 (((inoOf s).ext : Nat) : Int)) Q2.out
  obtain ⟨r0, r1, r2, r3, r4, r5, r6, r7, r8, r9, r10, r11⟩ := cells12 hbf
  refine bodyPost_ret (v := .tuple #[.agg #[.int .i64 (((inoOf s).kind : Nat) : Int), .int .i64 (((inoOf s).links : Nat) : Int), .int .i64 (((inoOf s).owner : Nat) : Int), .int .i64 (((inoOf s).size : Nat) : Int), .int .i64 (((inoOf s).d0 : Nat) : Int), .int .i64 (((inoOf s).d1 : Nat) : Int), .int .i64 (((inoOf s).d2 : Nat) : Int), .int .i64 (((inoOf s).d3 : Nat) : Int), .int .i64 (((inoOf s).d4 : Nat) : Int), .int .i64 (((inoOf s).d5 : Nat) : Int), .int .i64 (((inoOf s).ind : Nat) : Int), .int .i64 (((inoOf s).ext : Nat) : Int)], .int .i64 0]) (by simp [results, Try.results55, go_sem, r0, r1, r2, r3, r4, r5, r6, r7, r8, r9, r10, r11]) rfl ⟨rfl, ?_⟩
  exact below_set12 (below_keep B2.out (Nat.le_refl _) hb3) (Nat.le_refl _)
end Go.Proofs.Ytacdohlhalnioaa
end

/- Contracts: no inode; where data begin; a block's number (the document's). -/
section
set_option linter.unusedSimpArgs false
set_option linter.unusedVariables false
set_option maxRecDepth 20000
namespace Go.Proofs.Ytacdohlhalnioaa
open Go.RowKit
attribute [local go_sem] Oper.semAt_some

set_option maxHeartbeats 2000000 in
theorem rget18_no (A : Option Addr) (c : Nat) (v : Vol) (n : Int) (w : World) (hr : RS w A v) (h : getE v n ≠ 0) :
    Calls Try.prog 55 #[.slice A v.length c, .int .i64 n] w fun e w' => e = .returned (.tuple #[.agg #[.int .i64 0, .int .i64 0, .int .i64 0, .int .i64 0, .int .i64 0, .int .i64 0, .int .i64 0, .int .i64 0, .int .i64 0, .int .i64 0, .int .i64 0, .int .i64 0], .int .i64 (getE v n)]) ∧ Below w.heap.size w w' := by
  have HRR := Lib.hid hr
  clear hr
  by_cases hv : okV v = true
  · have hi := (okV_iff.1 hv).ihi
    have hn : ¬ (1 ≤ n ∧ n ≤ inosV v) := fun hn => h (getE_is hv hn.1 hn.2)
    rw [getE_lt hv hn]
    have HV := Lib.hid hv
    have hsplit : n < 1 ∨ (1 ≤ n ∧ (inosV v : Int) < n) := by omega
    clear hv h hn
    rcases hsplit with hn2 | ⟨hn1, hn2⟩
    all_goals
      go_enter Try.func55, Try.ntmps55
      go_wp2_with (go_at_call 46; refine (rof_ok _ _ _ _ (HRR.out.below ((Below.refl _ _).alloc (Nat.le_refl _) _)) HV.out).mono ?_; rintro e w1 ⟨rfl, hb1⟩; have hb2 := below_keep ((Below.refl _ w).alloc (Nat.le_refl _) _) (Nat.le_refl _) hb1; have B2 := Lib.hid (hb2.alloc hb2.size (.cells #[.int .i64 v.length, .int .i64 (inosV v), .int .i64 1, .int .i64 2, .int .i64 3, .int .i64 (3 + ((inosV v : Nat) + 1 : Int) / 2)] 66)); have q1 := blk_keep (blk_keep (blk_new w _) hb1) ((Below.refl _ w1).alloc (Nat.le_refl _) (.cells #[.int .i64 v.length, .int .i64 (inosV v), .int .i64 1, .int .i64 2, .int .i64 3, .int .i64 (3 + ((inosV v : Nat) + 1 : Int) / 2)] 66)); obtain ⟨c0, c1, c2, c3, c4, c5, c6, c7, c8, c9, c10, c11⟩ := cells12 q1; obtain ⟨f0, f1, f2, f3, f4, f5, f6, f7, f8, f9, f10, f11⟩ := frees12 q1; have Q1 := Lib.hid q1; clear q1 hb1 hb2)
      have hbf := blk_set12 (b0 := .int .i64 0) (a0 := .int .i64 0) (a1 := .int .i64 0) (a2 := .int .i64 0) (a3 := .int .i64 0) (a4 := .int .i64 0) (a5 := .int .i64 0) (a6 := .int .i64 0) (a7 := .int .i64 0) (a8 := .int .i64 0) (a9 := .int .i64 0) (a10 := .int .i64 0) (a11 := .int .i64 0) Q1.out
      obtain ⟨r0, r1, r2, r3, r4, r5, r6, r7, r8, r9, r10, r11⟩ := cells12 hbf
      refine bodyPost_ret (v := .tuple #[.agg #[.int .i64 0, .int .i64 0, .int .i64 0, .int .i64 0, .int .i64 0, .int .i64 0, .int .i64 0, .int .i64 0, .int .i64 0, .int .i64 0, .int .i64 0, .int .i64 0], .int .i64 2]) (by simp [results, Try.results55, go_sem, r0, r1, r2, r3, r4, r5, r6, r7, r8, r9, r10, r11]) rfl ⟨rfl, ?_⟩
      exact below_set12 B2.out (Nat.le_refl _)
  · have hv' : okV v = false := by simpa using hv
    rw [getE_bad hv']
    clear h hv
    go_enter Try.func55, Try.ntmps55
    go_wp2_with (go_at_call 46; refine (rof_no _ _ _ _ (HRR.out.below ((Below.refl _ _).alloc (Nat.le_refl _) _)) hv').mono ?_; rintro e w1 ⟨rfl, hb1⟩; have hb2 := below_keep ((Below.refl _ w).alloc (Nat.le_refl _) _) (Nat.le_refl _) hb1; have B2 := Lib.hid (hb2.alloc hb2.size (.cells #[.int .i64 0, .int .i64 0, .int .i64 0, .int .i64 0, .int .i64 0, .int .i64 0] 66)); have q1 := blk_keep (blk_keep (blk_new w _) hb1) ((Below.refl _ w1).alloc (Nat.le_refl _) (.cells #[.int .i64 0, .int .i64 0, .int .i64 0, .int .i64 0, .int .i64 0, .int .i64 0] 66)); obtain ⟨c0, c1, c2, c3, c4, c5, c6, c7, c8, c9, c10, c11⟩ := cells12 q1; obtain ⟨f0, f1, f2, f3, f4, f5, f6, f7, f8, f9, f10, f11⟩ := frees12 q1; have Q1 := Lib.hid q1; clear q1 hb1 hb2)
    have hbf := blk_set12 (b0 := .int .i64 0) (a0 := .int .i64 0) (a1 := .int .i64 0) (a2 := .int .i64 0) (a3 := .int .i64 0) (a4 := .int .i64 0) (a5 := .int .i64 0) (a6 := .int .i64 0) (a7 := .int .i64 0) (a8 := .int .i64 0) (a9 := .int .i64 0) (a10 := .int .i64 0) (a11 := .int .i64 0) Q1.out
    obtain ⟨r0, r1, r2, r3, r4, r5, r6, r7, r8, r9, r10, r11⟩ := cells12 hbf
    refine bodyPost_ret (v := .tuple #[.agg #[.int .i64 0, .int .i64 0, .int .i64 0, .int .i64 0, .int .i64 0, .int .i64 0, .int .i64 0, .int .i64 0, .int .i64 0, .int .i64 0, .int .i64 0, .int .i64 0], .int .i64 3]) (by simp [results, Try.results55, go_sem, r0, r1, r2, r3, r4, r5, r6, r7, r8, r9, r10, r11]) rfl ⟨rfl, ?_⟩
    exact below_set12 B2.out (Nat.le_refl _)
set_option maxHeartbeats 400000 in
theorem rdata_ok (A : Option Addr) (c : Nat) (v : Vol) (w : World) (hr : RS w A v) (hv : okV v = true) :
    Calls Try.prog 56 #[.slice A v.length c] w fun e w' => e = .returned (.int .i64 (dataV v)) ∧ Below w.heap.size w w' := by
  have hdd : (3 + ((inosV v : Nat) + 1 : Int) / 2) = ((dataV v : Nat) : Int) := by rw [dataV]; omega
  go_enter Try.func56, Try.ntmps56
  go_wp2_with (go_at_call 46; refine (rof_ok _ _ _ _ hr hv).mono ?_; rw [hdd]; rintro e w1 ⟨rfl, hb1⟩)
  go_ret
  exact ⟨rfl, hb1.alloc hb1.size _⟩
/-- A number, if it is that of a block. -/
def goodZ (d L b : Nat) : Nat := if goodN d L b = true then b else 0
set_option maxHeartbeats 400000 in
theorem rgood_ok (A : Option Addr) (c L d b : Nat) (w : World) (hL : L ≤ 8796093022208) :
    Calls Try.prog 64 #[.slice A L c, .int .i64 d, .int .i64 b] w fun e w' => e = .returned (.int .i64 ((goodZ d L b : Nat) : Int)) ∧ w = w' := by
  by_cases h : d ≤ b
  · by_cases h2 : b < L
    · go_enter Try.func64, Try.ntmps64
      go_wp2
      go_ret
      exact ⟨ret_int (by simp [goodZ, goodN, h, h2]), rfl⟩
    · go_enter Try.func64, Try.ntmps64
      go_wp2
      go_ret
      exact ⟨ret_int (by simp [goodZ, goodN, h, h2]), rfl⟩
  · go_enter Try.func64, Try.ntmps64
    go_wp2
    go_ret
    exact ⟨ret_int (by simp [goodZ, goodN, h]), rfl⟩
end Go.Proofs.Ytacdohlhalnioaa
end

/- Contract: the block of a place in a file (the document's). -/
section
set_option linter.unusedSimpArgs false
set_option linter.unusedVariables false
set_option maxRecDepth 20000
namespace Go.Proofs.Ytacdohlhalnioaa
open Go.RowKit
attribute [local go_sem] Oper.semAt_some

theorem atN_goodZ (d L : Nat) (v : Vol) (x : Ino) (k : Nat) : atN d L v x k = goodZ d L (numV d L v x k) := rfl
theorem two_at (s : Blk) (i : Nat) (j : Int) (w : World) (hj : j = (i : Int)) (h : i + 1 < s.length) (hl : s.length ≤ 128) :
    Calls Try.prog 98 #[.string (mk s), .int .i64 j] w fun e w' => e = .returned (.int .i64 ((w2 s i : Nat) : Int)) ∧ w.drew = w' := by
  subst hj
  exact two_ok s i w h hl
set_option maxHeartbeats 2000000 in
theorem rat_ok (A : Option Addr) (c d L : Nat) (v : Vol) (x : Ino) (k : Nat) (w : World) (hr : RS w A v) (hL : v.length = L) (hk : k < 70) (hd : 0 < d) (hs : ∀ j, j < L → (bk v j).length = 128) :
    Calls Try.prog 59 #[.slice A L c, .int .i64 d, .agg #[.int .i64 ((x.kind : Nat) : Int), .int .i64 ((x.links : Nat) : Int), .int .i64 ((x.owner : Nat) : Int), .int .i64 ((x.size : Nat) : Int), .int .i64 ((x.d0 : Nat) : Int), .int .i64 ((x.d1 : Nat) : Int), .int .i64 ((x.d2 : Nat) : Int), .int .i64 ((x.d3 : Nat) : Int), .int .i64 ((x.d4 : Nat) : Int), .int .i64 ((x.d5 : Nat) : Int), .int .i64 ((x.ind : Nat) : Int), .int .i64 ((x.ext : Nat) : Int)], .int .i64 k] w fun e w' => e = .returned (.int .i64 ((atN d L v x k : Nat) : Int)) ∧ Below w.heap.size w w' := by
  have hl := hr.1
  have hL8 : L ≤ 8796093022208 := by omega
  rw [atN_goodZ]
  have k0 := blk_new w (.cells #[.int .i64 ((x.kind : Nat) : Int), .int .i64 ((x.links : Nat) : Int), .int .i64 ((x.owner : Nat) : Int), .int .i64 ((x.size : Nat) : Int), .int .i64 ((x.d0 : Nat) : Int), .int .i64 ((x.d1 : Nat) : Int), .int .i64 ((x.d2 : Nat) : Int), .int .i64 ((x.d3 : Nat) : Int), .int .i64 ((x.d4 : Nat) : Int), .int .i64 ((x.d5 : Nat) : Int), .int .i64 ((x.ind : Nat) : Int), .int .i64 ((x.ext : Nat) : Int)] 45)
  have hB1 : Below w.heap.size w (w.alloc (.cells #[.int .i64 ((x.kind : Nat) : Int), .int .i64 ((x.links : Nat) : Int), .int .i64 ((x.owner : Nat) : Int), .int .i64 ((x.size : Nat) : Int), .int .i64 ((x.d0 : Nat) : Int), .int .i64 ((x.d1 : Nat) : Int), .int .i64 ((x.d2 : Nat) : Int), .int .i64 ((x.d3 : Nat) : Int), .int .i64 ((x.d4 : Nat) : Int), .int .i64 ((x.d5 : Nat) : Int), .int .i64 ((x.ind : Nat) : Int), .int .i64 ((x.ext : Nat) : Int)] 45)) := (Below.refl _ _).alloc (Nat.le_refl _) _
  by_cases hk6 : k < 6
  · rw [atN_near hk6]
    have hcd : (w.alloc (.cells #[.int .i64 ((x.kind : Nat) : Int), .int .i64 ((x.links : Nat) : Int), .int .i64 ((x.owner : Nat) : Int), .int .i64 ((x.size : Nat) : Int), .int .i64 ((x.d0 : Nat) : Int), .int .i64 ((x.d1 : Nat) : Int), .int .i64 ((x.d2 : Nat) : Int), .int .i64 ((x.d3 : Nat) : Int), .int .i64 ((x.d4 : Nat) : Int), .int .i64 ((x.d5 : Nat) : Int), .int .i64 ((x.ind : Nat) : Int), .int .i64 ((x.ext : Nat) : Int)] 45)).cell? ⟨w.heap.size, 4 + k, none⟩ = some (.int .i64 ((x.list.getD (4 + k) 0 : Nat) : Int)) := by
      rw [cell_at k0]
      rcases (by omega : k = 0 ∨ k = 1 ∨ k = 2 ∨ k = 3 ∨ k = 4 ∨ k = 5) with rfl | rfl | rfl | rfl | rfl | rfl <;> rfl
    have hki : (k : Int) < 6 := by omega
    generalize x.list.getD (4 + k) 0 = b at *
    have HR := Lib.hid hr
    clear hr hs k0
    go_enter Try.func59, Try.ntmps59
    go_wp2_with (go_at_call 64; refine (rgood_ok A c L d b _ hL8).mono ?_; rintro e w3 ⟨rfl, rfl⟩)
    go_ret
    exact ⟨rfl, hB1⟩
  · have c10 : (w.alloc (.cells #[.int .i64 ((x.kind : Nat) : Int), .int .i64 ((x.links : Nat) : Int), .int .i64 ((x.owner : Nat) : Int), .int .i64 ((x.size : Nat) : Int), .int .i64 ((x.d0 : Nat) : Int), .int .i64 ((x.d1 : Nat) : Int), .int .i64 ((x.d2 : Nat) : Int), .int .i64 ((x.d3 : Nat) : Int), .int .i64 ((x.d4 : Nat) : Int), .int .i64 ((x.d5 : Nat) : Int), .int .i64 ((x.ind : Nat) : Int), .int .i64 ((x.ext : Nat) : Int)] 45)).cell? ⟨w.heap.size, 10, none⟩ = some (.int .i64 x.ind) := by rw [cell_at k0]; rfl
    have hki : (6 : Int) ≤ (k : Int) := by omega
    by_cases hgi : goodN d L x.ind = true
    · have hgi2 : d ≤ x.ind ∧ x.ind < L := by simpa [goodN] using hgi
      have hgz : goodZ d L x.ind = x.ind := by rw [goodZ, if_pos hgi]
      rw [show numV d L v x k = w2 (bk v x.ind) (2 * (k - 6)) from by rw [numV, if_neg hk6, if_pos hgi]]
      obtain ⟨bA, oA, rfl, hbA, hc⟩ := hr.open_ (by omega)
      have hcB := cell_keep (hc x.ind (by omega)) hB1
      have hsi := hs x.ind (by omega)
      have hne : ((x.ind : Int) == 0) = false := by rw [beq_eq_false_iff_ne]; omega
      have hi1 : (x.ind : Int) < (L : Int) := by omega
      have hm : (2 : Int) * ((k : Int) - 6) = ((2 * (k - 6) : Nat) : Int) := by omega
      have hml : 2 * (k - 6) + 1 < 128 := by omega
      generalize 2 * (k - 6) = m at *
      have HW := Lib.hid (w2_lt (bk v x.ind) m)
      clear hr hs hc k0
      generalize bk v x.ind = b at *
      obtain ⟨z, hz⟩ : ∃ z, w2 b m = z := ⟨_, rfl⟩
      rw [hz]
      have HZ := Lib.hid hz
      clear hz
      go_enter Try.func59, Try.ntmps59
      go_wp2_with (first | (go_at_call 98; refine (two_ok b m _ (by omega) (by omega)).mono ?_; rw [HZ.out]; rintro e w3 ⟨rfl, rfl⟩; clear hgi hne) | (go_at_call 64; have := hne; refine (rgood_ok _ c L d x.ind _ hL8).mono ?_; rw [hgz]; rintro e w3 ⟨rfl, rfl⟩) | (go_at_call 64; refine (rgood_ok _ c L d z _ hL8).mono ?_; rintro e w3 ⟨rfl, rfl⟩))
      go_ret
      exact ⟨rfl, hB1.drew⟩
    · have hgz : goodZ d L x.ind = 0 := by rw [goodZ, if_neg hgi]
      have hz : goodZ d L (numV d L v x k) = 0 := by
        have : numV d L v x k = 0 := by rw [numV, if_neg hk6, if_neg hgi]
        rw [this, goodZ]
        split <;> rfl
      rw [hz]
      clear hr hs k0 hz
      go_enter Try.func59, Try.ntmps59
      go_wp2_with (go_at_call 64; refine (rgood_ok _ c L d x.ind _ hL8).mono ?_; rw [hgz]; rintro e w3 ⟨rfl, rfl⟩)
      go_ret
      exact ⟨rfl, hB1⟩
end Go.Proofs.Ytacdohlhalnioaa
end

/- Contracts: an inode's size, how many blocks it needs; its blocks (the document's). -/
section
set_option linter.unusedSimpArgs false
set_option linter.unusedVariables false
set_option maxRecDepth 20000
namespace Go.Proofs.Ytacdohlhalnioaa
open Go.RowKit
attribute [local go_sem] Oper.semAt_some

set_option maxHeartbeats 400000 in
theorem rsize_ok (x : Ino) (w : World) :
    Calls Try.prog 58 #[.agg #[.int .i64 ((x.kind : Nat) : Int), .int .i64 ((x.links : Nat) : Int), .int .i64 ((x.owner : Nat) : Int), .int .i64 ((x.size : Nat) : Int), .int .i64 ((x.d0 : Nat) : Int), .int .i64 ((x.d1 : Nat) : Int), .int .i64 ((x.d2 : Nat) : Int), .int .i64 ((x.d3 : Nat) : Int), .int .i64 ((x.d4 : Nat) : Int), .int .i64 ((x.d5 : Nat) : Int), .int .i64 ((x.ind : Nat) : Int), .int .i64 ((x.ext : Nat) : Int)]] w fun e w' => e = .returned (.int .i64 ((sizeX x : Nat) : Int)) ∧ Below w.heap.size w w' := by
  have k0 := blk_new w (.cells #[.int .i64 ((x.kind : Nat) : Int), .int .i64 ((x.links : Nat) : Int), .int .i64 ((x.owner : Nat) : Int), .int .i64 ((x.size : Nat) : Int), .int .i64 ((x.d0 : Nat) : Int), .int .i64 ((x.d1 : Nat) : Int), .int .i64 ((x.d2 : Nat) : Int), .int .i64 ((x.d3 : Nat) : Int), .int .i64 ((x.d4 : Nat) : Int), .int .i64 ((x.d5 : Nat) : Int), .int .i64 ((x.ind : Nat) : Int), .int .i64 ((x.ext : Nat) : Int)] 45)
  have hB1 : Below w.heap.size w (w.alloc (.cells #[.int .i64 ((x.kind : Nat) : Int), .int .i64 ((x.links : Nat) : Int), .int .i64 ((x.owner : Nat) : Int), .int .i64 ((x.size : Nat) : Int), .int .i64 ((x.d0 : Nat) : Int), .int .i64 ((x.d1 : Nat) : Int), .int .i64 ((x.d2 : Nat) : Int), .int .i64 ((x.d3 : Nat) : Int), .int .i64 ((x.d4 : Nat) : Int), .int .i64 ((x.d5 : Nat) : Int), .int .i64 ((x.ind : Nat) : Int), .int .i64 ((x.ext : Nat) : Int)] 45)) := (Below.refl _ _).alloc (Nat.le_refl _) _
  have c3 : (w.alloc (.cells #[.int .i64 ((x.kind : Nat) : Int), .int .i64 ((x.links : Nat) : Int), .int .i64 ((x.owner : Nat) : Int), .int .i64 ((x.size : Nat) : Int), .int .i64 ((x.d0 : Nat) : Int), .int .i64 ((x.d1 : Nat) : Int), .int .i64 ((x.d2 : Nat) : Int), .int .i64 ((x.d3 : Nat) : Int), .int .i64 ((x.d4 : Nat) : Int), .int .i64 ((x.d5 : Nat) : Int), .int .i64 ((x.ind : Nat) : Int), .int .i64 ((x.ext : Nat) : Int)] 45)).cell? ⟨w.heap.size, 3, none⟩ = some (.int .i64 x.size) := by rw [cell_at k0]; rfl
  clear k0
  by_cases h : 8960 < x.size
  · have hi : (8960 : Int) < (x.size : Nat) := by omega
    go_enter Try.func58, Try.ntmps58
    go_wp2
    go_ret
    exact ⟨ret_int (by rw [sizeX]; omega), hB1⟩
  · have hi : ((x.size : Nat) : Int) ≤ 8960 := by omega
    go_enter Try.func58, Try.ntmps58
    go_wp2
    go_ret
    exact ⟨ret_int (by rw [sizeX]; omega), hB1⟩
set_option maxHeartbeats 400000 in
theorem rblocks1_ok (s : Nat) (w : World) (h : s ≤ 8960) :
    Calls Try.prog 57 #[.int .i64 s] w fun e w' => e = .returned (.int .i64 ((needS s : Nat) : Int)) ∧ w = w' := by
  go_enter Try.func57, Try.ntmps57
  go_wp2
  go_ret
  exact ⟨ret_int (by rw [needS]; omega), rfl⟩
end Go.Proofs.Ytacdohlhalnioaa
end

/- Contract: how many blocks (the document's). -/
section
set_option linter.unusedSimpArgs false
set_option linter.unusedVariables false
set_option maxRecDepth 20000
namespace Go.Proofs.Ytacdohlhalnioaa
open Go.RowKit
attribute [local go_sem] Oper.semAt_some

theorem goodZ_pos {d L b : Nat} (hd : 0 < d) : 0 < goodZ d L b ↔ goodN d L b = true := by
  unfold goodZ
  split
  · rename_i h
    have : d ≤ b ∧ b < L := by simpa [goodN] using h
    constructor
    · intro _; exact h
    · intro _; omega
  · rename_i h
    constructor
    · intro h2; omega
    · intro h2; exact absurd h2 h
set_option maxHeartbeats 4000000 in
theorem rcount_ok (A : Option Addr) (c : Nat) (v : Vol) (n : Nat) (w : World) (hr : RS w A v) (hv : okV v = true) (h1 : 1 ≤ n) (h2 : n ≤ inosV v) :
    Calls Try.prog 23 #[.slice A v.length c, .int .i64 n] w fun e w' => e = .returned (.int .i64 ((countV v n : Nat) : Int)) ∧ Below w.heap.size w w' := by
  have HOK := okV_iff.1 hv
  have h2' := HOK.hi
  have hd0 : 0 < dataV v := by rw [dataV]; omega
  have HS := Lib.hid HOK.size
  have HV := Lib.hid hv
  have HR := Lib.hid hr
  have hl8 : v.length ≤ 8796093022208 := by omega
  clear hv hr HOK
  have hget := Lib.hid (fun w hr => rget18_ok A c v n w hr HV.out h1 h2)
  have hdat := Lib.hid (fun w hr => rdata_ok A c v w hr HV.out)
  rw [countV]
  obtain ⟨d, hd⟩ : ∃ d, dataV v = d := ⟨_, rfl⟩
  obtain ⟨x, hX⟩ : ∃ x, inoV v n = x := ⟨_, rfl⟩
  rw [hd] at hd0 hdat ⊢
  rw [hX] at hget ⊢
  clear hd hX
  go_enter Try.func23, Try.ntmps23
  go_wp2_with (first
    | (go_at_call 55; refine (hget.out _ HR.out).mono ?_; rintro e w1 ⟨rfl, hb1⟩; have B1 := Lib.hid hb1; clear hb1)
    | (go_at_call 56; refine (hdat.out _ (HR.out.below (B1.out.alloc B1.out.size _))).mono ?_; rintro e w2 ⟨rfl, hb2⟩; have B2 := Lib.hid (below_keep (B1.out.alloc B1.out.size _) (Nat.le_refl _) hb2); have K2 := Lib.hid (blk_keep (blk_new w1 (.cells #[.int .i64 ((x.kind : Nat) : Int), .int .i64 ((x.links : Nat) : Int), .int .i64 ((x.owner : Nat) : Int), .int .i64 ((x.size : Nat) : Int), .int .i64 ((x.d0 : Nat) : Int), .int .i64 ((x.d1 : Nat) : Int), .int .i64 ((x.d2 : Nat) : Int), .int .i64 ((x.d3 : Nat) : Int), .int .i64 ((x.d4 : Nat) : Int), .int .i64 ((x.d5 : Nat) : Int), .int .i64 ((x.ind : Nat) : Int), .int .i64 ((x.ext : Nat) : Int)] 45)) hb2); clear hb2))
  have hs1 := B1.out.size
  generalize w1.heap.size = q at *
  go_loopw [7, 9] (fun cv iv wr => ∃ k : Nat, k ≤ 70 ∧ iv = .int .i64 k ∧ cv = .int .i64 ((cntTo d v.length v x (List.range k) : Nat) : Int) ∧ Hid (wr.heap[q]? = some (.cells #[.int .i64 ((x.kind : Nat) : Int), .int .i64 ((x.links : Nat) : Int), .int .i64 ((x.owner : Nat) : Int), .int .i64 ((x.size : Nat) : Int), .int .i64 ((x.d0 : Nat) : Int), .int .i64 ((x.d1 : Nat) : Int), .int .i64 ((x.d2 : Nat) : Int), .int .i64 ((x.d3 : Nat) : Int), .int .i64 ((x.d4 : Nat) : Int), .int .i64 ((x.d5 : Nat) : Int), .int .i64 ((x.ind : Nat) : Int), .int .i64 ((x.ext : Nat) : Int)] 45 (0, 0))) ∧ Hid (Below w.heap.size w wr)) (fun _ iv _ => 70 - (intOf iv).toNat)
  case atStart => exact ⟨0, by omega, rfl, rfl, K2, B2⟩
  case round =>
    obtain ⟨k, hk, rfl, rfl, hq, hB⟩ := hrel
    have hle := cntTo_le d v.length v x (List.range k)
    rw [List.length_range] at hle
    obtain ⟨q0, q1, q2, q3, q4, q5, q6, q7, q8, q9, q10, q11⟩ := cells12 hq.out
    by_cases hlt : k < 70
    · have hsn := cntTo_snoc d v.length v x (List.range k) k
      rw [← List.range_succ] at hsn
      obtain ⟨z, hz⟩ : ∃ z, cntTo d v.length v x (List.range k) = z := ⟨_, rfl⟩
      obtain ⟨b, hb⟩ : ∃ b, atN d v.length v x k = b := ⟨_, rfl⟩
      rw [hb] at hsn
      rw [hz] at hsn hle ⊢
      have HSN := Lib.hid hsn
      have HBB := Lib.hid hb
      clear hsn hz hb
      by_cases h0 : b = 0
      · subst h0
        go_wp2_with (go_at_call 59; refine (rat_ok A c d v.length v x k _ (HR.out.below hB.out) rfl hlt hd0 HS.out).mono ?_; rw [HBB.out]; rintro e w3 ⟨rfl, hb3⟩)
        refine ⟨⟨k + 1, by omega, by go_num, ?_, blk_keep hq.out hb3, below_keep hB.out (Nat.le_refl _) hb3⟩, by simp only [intOf]; omega⟩
        rw [HSN.out]; rfl
      · have hb0 : (0 : Int) < (b : Int) := by omega
        go_wp2_with (go_at_call 59; refine (rat_ok A c d v.length v x k _ (HR.out.below hB.out) rfl hlt hd0 HS.out).mono ?_; rw [HBB.out]; rintro e w3 ⟨rfl, hb3⟩)
        refine ⟨⟨k + 1, by omega, by go_num, ?_, blk_keep hq.out hb3, below_keep hB.out (Nat.le_refl _) hb3⟩, by simp only [intOf]; omega⟩
        rw [HSN.out, if_neg h0]; rfl
    · obtain rfl : k = 70 := by omega
      obtain ⟨z, hz⟩ : ∃ z, cntTo d v.length v x (List.range 70) = z := ⟨_, rfl⟩
      rw [hz] at hle ⊢
      have hgi := goodZ_pos (L := v.length) (b := x.ind) hd0
      have hge := goodZ_pos (L := v.length) (b := x.ext) hd0
      have HZ := Lib.hid hz
      clear hz
      obtain ⟨gi, hgi'⟩ : ∃ gi, goodZ d v.length x.ind = gi := ⟨_, rfl⟩
      obtain ⟨ge, hge'⟩ : ∃ ge, goodZ d v.length x.ext = ge := ⟨_, rfl⟩
      rw [hgi'] at hgi
      rw [hge'] at hge
      have HGI := Lib.hid hgi'
      have HGE := Lib.hid hge'
      have HI := Lib.hid hgi
      have HE := Lib.hid hge
      clear hgi hge hgi' hge'
      have ha1 : (gi = 0 ∧ one (goodN d v.length x.ind) = 0) ∨ (0 < gi ∧ one (goodN d v.length x.ind) = 1) := by
        rcases Nat.eq_zero_or_pos gi with h | h
        · exact .inl ⟨h, by rw [one, if_neg (fun e => by have := HI.out.2 e; omega)]⟩
        · exact .inr ⟨h, by rw [one, if_pos (HI.out.1 h)]⟩
      have ha2 : (ge = 0 ∧ one (goodN d v.length x.ext) = 0) ∨ (0 < ge ∧ one (goodN d v.length x.ext) = 1) := by
        rcases Nat.eq_zero_or_pos ge with h | h
        · exact .inl ⟨h, by rw [one, if_neg (fun e => by have := HE.out.2 e; omega)]⟩
        · exact .inr ⟨h, by rw [one, if_pos (HE.out.1 h)]⟩
      obtain ⟨oi, hoi⟩ : ∃ oi, one (goodN d v.length x.ind) = oi := ⟨_, rfl⟩
      obtain ⟨oe, hoe⟩ : ∃ oe, one (goodN d v.length x.ext) = oe := ⟨_, rfl⟩
      rw [hoi] at ha1
      rw [hoe] at ha2
      have HOI := Lib.hid hoi
      have HOE := Lib.hid hoe
      clear hoi hoe
      rcases ha1 with ⟨rfl, rfl⟩ | ⟨hp1, rfl⟩ <;> rcases ha2 with ⟨rfl, rfl⟩ | ⟨hp2, rfl⟩
      all_goals
        go_wp2_with (first
          | (go_at_call 64; have := HI; refine (rgood_ok A c v.length d x.ind _ hl8).mono ?_; rw [HGI.out]; rintro e w3 ⟨rfl, rfl⟩; clear HI)
          | (go_at_call 64; refine (rgood_ok A c v.length d x.ext _ hl8).mono ?_; rw [HGE.out]; rintro e w3 ⟨rfl, rfl⟩))
        go_ret
        refine ⟨ret_int ?_, hB.out⟩
        rw [HZ.out, HOI.out, HOE.out]
        omega
end Go.Proofs.Ytacdohlhalnioaa
end

/- Contract: the blocks of a file (the document's). -/
section
set_option linter.unusedSimpArgs false
set_option linter.unusedVariables false
set_option maxRecDepth 20000
namespace Go.Proofs.Ytacdohlhalnioaa
open Go.RowKit
attribute [local go_sem] Oper.semAt_some

theorem own_new (e : TypeId) (w : World) : (w.alloc (.cells #[] e)).ownsRow w.heap.size e 1 (.slice (some ⟨w.heap.size, 0, none⟩) 0 0) 0 [] :=
  ⟨rfl, .inr ⟨w.heap.size, 0, #[], rfl, Nat.le_refl _, blk_new w _, Nat.le_refl _, by simp [maxLen], rfl, rfl⟩⟩
set_option maxHeartbeats 1000000 in
theorem rblocks_no (A : Option Addr) (c : Nat) (v : Vol) (n : Int) (w : World) (hr : RS w A v) (h : getE v n ≠ 0) :
    Calls Try.prog 19 #[.slice A v.length c, .int .i64 n] w fun e w' => ∃ u, e = .returned u ∧ w'.ownsRow w.heap.size 3 1 u 0 (ints []) ∧ Below w.heap.size w w' := by
  have HP := fun w hr => rget18_no A c v n w hr h
  generalize getE v n = er at *
  have hbn : (er != 0) = true := by simpa using h
  have hb : (er == 0) = false := by simpa using h
  have HPl := Lib.hid HP
  have HRR := Lib.hid hr
  clear HP hr
  go_enter Try.func19, Try.ntmps19
  have hb0 : Below w.heap.size w (w.alloc (.cells #[] 3)) := (Below.refl _ _).alloc (Nat.le_refl _) _
  go_wp2_with (go_at_call 55; refine (HPl.out _ (HRR.out.below hb0)).mono ?_; rintro e w1 ⟨rfl, hb1⟩; have B1 := Lib.hid hb1; clear hb1)
  go_ret
  refine ⟨_, rfl, own_below (own_new 3 w) ?_, ?_⟩
  · exact B1.out.alloc B1.out.size _
  · exact (below_keep hb0 (Nat.le_refl _) B1.out).alloc (below_keep hb0 (Nat.le_refl _) B1.out).size _
theorem blocks_snoc (d L : Nat) (v : Vol) (x : Ino) (k : Nat) : (List.range (k + 1)).map (fun k => holeI (atN d L v x k)) = (List.range k).map (fun k => holeI (atN d L v x k)) ++ [holeI (atN d L v x k)] := by
  rw [List.range_succ, List.map_append, List.map_singleton]
set_option maxHeartbeats 4000000 in
theorem rblocks_ok (A : Option Addr) (c : Nat) (v : Vol) (n : Nat) (w : World) (hr : RS w A v) (hv : okV v = true) (h1 : 1 ≤ n) (h2 : n ≤ inosV v) :
    Calls Try.prog 19 #[.slice A v.length c, .int .i64 n] w fun e w' => ∃ u, e = .returned u ∧ w'.ownsRow w.heap.size 3 1 u (blocksV v n).length (ints (blocksV v n)) ∧ Below w.heap.size w w' := by
  obtain ⟨i0, hi0, hz0, hz1, hz2⟩ := info_parts (show (Try.prog.info? 3).map (fun i => (i.zero, i.size, i.bytes)) = some (some (.int .i64 0), 1, 8) by kernel_rfl)
  have HOK := okV_iff.1 hv
  have hd0 : 0 < dataV v := by rw [dataV]; omega
  have HS := Lib.hid HOK.size
  have HV := Lib.hid hv
  have HR := Lib.hid hr
  clear hv hr HOK
  have hget := Lib.hid (fun w hr => rget18_ok A c v n w hr HV.out h1 h2)
  have hdat := Lib.hid (fun w hr => rdata_ok A c v w hr HV.out)
  rw [blocksV]
  obtain ⟨d, hd⟩ : ∃ d, dataV v = d := ⟨_, rfl⟩
  obtain ⟨x, hX⟩ : ∃ x, inoV v n = x := ⟨_, rfl⟩
  rw [hd] at hd0 hdat ⊢
  rw [hX] at hget ⊢
  clear hd hX
  obtain ⟨s, hsx⟩ : ∃ s, sizeX x = s := ⟨_, rfl⟩
  have hs8 : s ≤ 8960 := by rw [← hsx, sizeX]; omega
  rw [hsx]
  obtain ⟨m, hm⟩ : ∃ m, needS s = m := ⟨_, rfl⟩
  have hm70 : m ≤ 70 := by rw [← hm, needS]; omega
  rw [hm]
  have HM := Lib.hid hm
  have HSX := Lib.hid hsx
  clear hm hsx
  have hbA : Below w.heap.size w (w.alloc (.cells #[] 3)) := (Below.refl _ _).alloc (Nat.le_refl _) _
  have hsA : (w.alloc (.cells #[] 3)).heap.size = w.heap.size + 1 := by simp
  have hown0 := own_new 3 w
  go_enter Try.func19, Try.ntmps19
  have HO0 := Lib.hid hown0
  have HBA := Lib.hid hbA
  clear hown0 hbA
  go_wp2_with (first
    | (go_at_call 55; refine (hget.out _ (HR.out.below HBA.out)).mono ?_; rintro e w1 ⟨rfl, hb1⟩; have B1 := Lib.hid hb1; clear hb1)
    | (go_at_call 56; refine (hdat.out _ (HR.out.below (below_keep HBA.out (Nat.le_refl _) (B1.out.alloc B1.out.size _)))).mono ?_; rintro e w2 ⟨rfl, hb2⟩; have B2 := Lib.hid (below_keep (B1.out.alloc B1.out.size _) (Nat.le_refl _) hb2); have K2 := Lib.hid (blk_keep (blk_new w1 (.cells #[.int .i64 ((x.kind : Nat) : Int), .int .i64 ((x.links : Nat) : Int), .int .i64 ((x.owner : Nat) : Int), .int .i64 ((x.size : Nat) : Int), .int .i64 ((x.d0 : Nat) : Int), .int .i64 ((x.d1 : Nat) : Int), .int .i64 ((x.d2 : Nat) : Int), .int .i64 ((x.d3 : Nat) : Int), .int .i64 ((x.d4 : Nat) : Int), .int .i64 ((x.d5 : Nat) : Int), .int .i64 ((x.ind : Nat) : Int), .int .i64 ((x.ext : Nat) : Int)] 45)) hb2); clear hb2))
  have hs1 := B1.out.size
  have hs2 := B2.out.size
  have hq2 := blk_lt K2.out
  have HO2 := Lib.hid (own_below HO0.out B2.out)
  have HB2 := Lib.hid (below_keep HBA.out (Nat.le_refl _) B2.out)
  generalize w1.heap.size = q at *
  have hwq : w.heap.size < q := by omega
  go_loopw [5, 9] (fun uv iv wr => ∃ k : Nat, k ≤ m ∧ iv = .int .i64 k ∧ Hid (wr.ownsRow w.heap.size 3 1 uv k (ints ((List.range k).map fun k => holeI (atN d v.length v x k))) ∧ (∀ g, uv.ownBlock = some g → g ≠ q)) ∧ Hid (wr.heap[q]? = some (.cells #[.int .i64 ((x.kind : Nat) : Int), .int .i64 ((x.links : Nat) : Int), .int .i64 ((x.owner : Nat) : Int), .int .i64 ((x.size : Nat) : Int), .int .i64 ((x.d0 : Nat) : Int), .int .i64 ((x.d1 : Nat) : Int), .int .i64 ((x.d2 : Nat) : Int), .int .i64 ((x.d3 : Nat) : Int), .int .i64 ((x.d4 : Nat) : Int), .int .i64 ((x.d5 : Nat) : Int), .int .i64 ((x.ind : Nat) : Int), .int .i64 ((x.ext : Nat) : Int)] 45 (0, 0))) ∧ Hid (Below w.heap.size w wr)) (fun _ iv _ => 70 - (intOf iv).toNat)
  case atStart => exact ⟨0, by omega, rfl, ⟨HO2.out, fun g e => by have e2 : some w.heap.size = some g := e; have := Option.some.inj e2; omega⟩, K2, HB2⟩
  case round =>
    obtain ⟨k, hk, rfl, ho, hq, hB⟩ := hrel
    obtain ⟨ua, uc, rfl⟩ := own_slice ho.out.1
    obtain ⟨q0, q1, q2, q3, q4, q5, q6, q7, q8, q9, q10, q11⟩ := cells12 hq.out
    by_cases hlt : k < m
    · have hki : (k : Int) < (m : Nat) := by omega
      have hsn := blocks_snoc d v.length v x k
      obtain ⟨l, hl⟩ : ∃ l, (List.range k).map (fun k => holeI (atN d v.length v x k)) = l := ⟨_, rfl⟩
      obtain ⟨b, hb⟩ : ∃ b, atN d v.length v x k = b := ⟨_, rfl⟩
      rw [hb, hl] at hsn
      rw [hl] at ho
      have HSN := Lib.hid hsn
      have HBB := Lib.hid hb
      clear hsn hl hb
      have hh : (b = 0 ∧ holeI b = -1) ∨ (b ≠ 0 ∧ holeI b = b) := by
        unfold holeI
        split
        · rename_i h; exact .inl ⟨h, rfl⟩
        · rename_i h; exact .inr ⟨h, rfl⟩
      obtain ⟨hb, hhb⟩ : ∃ z, holeI b = z := ⟨_, rfl⟩
      rw [hhb] at hh
      have HHB := Lib.hid hhb
      clear hhb
      rcases hh with ⟨rfl, rfl⟩ | ⟨hne, rfl⟩
      all_goals
        go_wp2_with (first
          | (go_at_call 58; refine (rsize_ok x _).mono ?_; rw [HSX.out]; rintro e w3 ⟨rfl, hb3⟩; have hq3 := blk_keep hq.out hb3; obtain ⟨q0, q1, q2, q3, q4, q5, q6, q7, q8, q9, q10, q11⟩ := cells12 hq3; have B3 := Lib.hid hb3; have Q3 := Lib.hid hq3; clear hb3 hq3)
          | (go_at_call 57; refine (rblocks1_ok s _ hs8).mono ?_; rw [HM.out]; rintro e w3 ⟨rfl, rfl⟩)
          | (go_at_call 59; refine (rat_ok A c d v.length v x k _ ((HR.out.below hB.out).below B3.out) rfl (by omega) hd0 HS.out).mono ?_; rw [HBB.out]; rintro e w4 ⟨rfl, hb4⟩; have B4 := Lib.hid (below_keep B3.out (Nat.le_refl _) hb4); clear hb4)
          | (at_builtin; refine wpList_append_own_at _ rfl _ _ 26 rfl w.heap.size 3 i0 (.int .i64 0) 1 8 Try.underlying26 hi0 hz0 hz1 hz2 rfl (by decide) _ k _ rfl (own_below ho.out.1 (B4.out.alloc B4.out.size _)) ⟨w4.heap.size, 0, none⟩ 1 1 [.int .i64 _] rfl rfl (cell_one_new _ _ _) (by simp [Value.oneCell']) (by simp only [maxLen]; omega) (by omega) (by have := B4.out.size; have := hB.out.size; simp; omega) ?_; intro u' w5 hown' hgrow _ howb; have EG := Lib.hid hgrow; have EO := Lib.hid hown'; have EB := Lib.hid howb; clear hgrow hown' howb))
        have hsz4 := B4.out.size
        have hro : ∀ r, (Value.slice ua k uc).ownBlock = some r → w.heap.size ≤ r := fun r e => (ho.out.1.lt r e).1
        have hlr := blk_lt hq.out
        have hk5 : w5.heap[q]? = some (.cells #[.int .i64 ((x.kind : Nat) : Int), .int .i64 ((x.links : Nat) : Int), .int .i64 ((x.owner : Nat) : Int), .int .i64 ((x.size : Nat) : Int), .int .i64 ((x.d0 : Nat) : Int), .int .i64 ((x.d1 : Nat) : Int), .int .i64 ((x.d2 : Nat) : Int), .int .i64 ((x.d3 : Nat) : Int), .int .i64 ((x.d4 : Nat) : Int), .int .i64 ((x.d5 : Nat) : Int), .int .i64 ((x.ind : Nat) : Int), .int .i64 ((x.ext : Nat) : Int)] 45 (0, 0)) := (EG.out.block q (by simp; omega) (fun e => ho.out.2 q e.symm rfl)).trans (blk_keep hq.out (B4.out.alloc B4.out.size _))
        have hB5 : Below w.heap.size w w5 := (below_keep hB.out (by have := hB.out.size; omega) (B4.out.alloc B4.out.size _)).grown EG.out (by have := hB.out.size; simp; omega) (fun r e => hro r e)
        refine ⟨⟨k + 1, by omega, by go_num, ⟨?_, fun r e => ?_⟩, hk5, hB5⟩, by simp only [intOf]; omega⟩
        · rw [HSN.out, HHB.out, ints, List.map_append]
          exact EO.out
        · rcases EB.out with h | h
          · rw [h] at e
            exact ho.out.2 r e
          · rw [h] at e
            have := Option.some.inj e
            simp at this
            omega
    · obtain rfl : k = m := by omega
      go_wp2_with (first
          | (go_at_call 58; refine (rsize_ok x _).mono ?_; rw [HSX.out]; rintro e w3 ⟨rfl, hb3⟩; have B3 := Lib.hid hb3; clear hb3)
          | (go_at_call 57; refine (rblocks1_ok s _ hs8).mono ?_; rw [HM.out]; rintro e w3 ⟨rfl, rfl⟩))
      go_ret
      refine ⟨_, rfl, ?_, below_keep hB.out (by have := hB.out.size; omega) B3.out⟩
      have := own_below ho.out.1 B3.out
      simpa using this
end Go.Proofs.Ytacdohlhalnioaa
end

/- Contracts: bytes of a file, how many blocks where there is no such inode (the document's). -/
section
set_option linter.unusedSimpArgs false
set_option linter.unusedVariables false
set_option maxRecDepth 20000
namespace Go.Proofs.Ytacdohlhalnioaa
open Go.RowKit
attribute [local go_sem] Oper.semAt_some

set_option maxHeartbeats 1000000 in
theorem rcount_no (A : Option Addr) (c : Nat) (v : Vol) (n : Int) (w : World) (hr : RS w A v) (h : getE v n ≠ 0) :
    Calls Try.prog 23 #[.slice A v.length c, .int .i64 n] w fun e w' => e = .returned (.int .i64 0) ∧ Below w.heap.size w w' := by
  have HP := fun w hr => rget18_no A c v n w hr h
  generalize getE v n = er at *
  have hbn : (er != 0) = true := by simpa using h
  have hb : (er == 0) = false := by simpa using h
  have HPl := Lib.hid HP
  have HRR := Lib.hid hr
  clear HP hr
  go_enter Try.func23, Try.ntmps23
  go_wp2_with (go_at_call 55; refine (HPl.out _ HRR.out).mono ?_; rintro e w1 ⟨rfl, hb1⟩; have B1 := Lib.hid hb1; clear hb1)
  go_ret
  exact ⟨rfl, B1.out.alloc B1.out.size _⟩
set_option maxHeartbeats 1000000 in
theorem rread_no (A : Option Addr) (c : Nat) (v : Vol) (n off sz : Int) (w : World) (hr : RS w A v) (h : getE v n ≠ 0) :
    Calls Try.prog 21 #[.slice A v.length c, .int .i64 n, .int .i64 off, .int .i64 sz] w fun e w' => e = .returned (.tuple #[.string (mk []), .int .i64 (getE v n)]) ∧ Below w.heap.size w w' := by
  have HP := fun w hr => rget18_no A c v n w hr h
  generalize getE v n = er at *
  have hbn : (er != 0) = true := by simpa using h
  have hb : (er == 0) = false := by simpa using h
  have HPl := Lib.hid HP
  have HRR := Lib.hid hr
  clear HP hr
  go_enter Try.func21, Try.ntmps21
  go_wp2_with (go_at_call 55; refine (HPl.out _ HRR.out).mono ?_; rintro e w1 ⟨rfl, hb1⟩; have B1 := Lib.hid hb1; clear hb1)
  go_ret2
  exact ⟨rfl, B1.out.alloc B1.out.size _⟩
set_option maxHeartbeats 1000000 in
theorem rread_neg (A : Option Addr) (c : Nat) (v : Vol) (n : Nat) (off sz : Int) (w : World) (hr : RS w A v) (hv : okV v = true) (h1 : 1 ≤ n) (h2 : n ≤ inosV v) (ho : off < 0 ∨ sz < 0) :
    Calls Try.prog 21 #[.slice A v.length c, .int .i64 n, .int .i64 off, .int .i64 sz] w fun e w' => e = .returned (.tuple #[.string (mk []), .int .i64 1]) ∧ Below w.heap.size w w' := by
  have HPl := Lib.hid (fun w hr => rget18_ok A c v n w hr hv h1 h2)
  have HRR := Lib.hid hr
  clear hr hv
  have ho' : off < 0 ∨ (0 ≤ off ∧ sz < 0) := by omega
  clear ho
  rcases ho' with ho | ⟨ho, hz⟩
  all_goals
    go_enter Try.func21, Try.ntmps21
    go_wp2_with (go_at_call 55; refine (HPl.out _ HRR.out).mono ?_; rintro e w1 ⟨rfl, hb1⟩; have B1 := Lib.hid hb1; clear hb1)
    go_ret2
    exact ⟨rfl, B1.out.alloc B1.out.size _⟩
theorem own_str {W : World} {base n : Nat} {u : Value} {l : Blk} (h : W.ownsRow base 5 1 u n (Lib.byteCells l)) (hn : l.length = n) : (convert 62 9 u).run Try.prog W = .ok (.string (mk l)) W := by
  rcases h.2 with ⟨rfl, h0⟩ | ⟨g, cap, cur, rfl, h1, h2, h3, h4, h5, h6⟩
  · have : l = [] := List.length_eq_zero_iff.1 (by omega)
    subst this
    exact str_u8_nil _ _ _ Try.underlying62 Try.underlying5 Try.underlying9 W 0 0
  · refine str_of_u8 W g 0 n cap l hn (fun j hj => ?_)
    have hc := h.cells (g := g) rfl j (.int .u8 (gb l j)) (by
      have : j < l.length := by omega
      simp [Lib.byteCells, gb, this])
    by_cases h0 : j = 0
    · subst h0; simpa [Addr.add] using hc
    · simpa [Addr.add, h0] using hc
theorem cat_get {d L : Nat} {v : Vol} {x : Ino} (hs : ∀ j, j < L → (bk v j).length = 128) (m i : Nat) (h : i < 128 * m) : (catTo d L v x (List.range m))[i]? = (blkAt d L v x (i / 128))[i % 128]? := by
  induction m with
  | zero => omega
  | succ m ih =>
    have hl := catTo_len (d := d) (x := x) hs (List.range m)
    rw [List.length_range] at hl
    rw [List.range_succ, show catTo d L v x (List.range m ++ [m]) = catTo d L v x (List.range m) ++ blkAt d L v x m from by simp [catTo]]
    by_cases h2 : i < 128 * m
    · rw [List.getElem?_append_left (by omega)]
      exact ih h2
    · rw [List.getElem?_append_right (by omega), hl, show i / 128 = m from by omega, show i - 128 * m = i % 128 from by omega]
theorem cont_byte {v : Vol} {n i : Nat} (hs : ∀ j, j < v.length → (bk v j).length = 128) (h : i < sizeX (inoV v n)) : (contV v n)[i]? = some (UInt8.ofNat (gb (blkAt (dataV v) v.length v (inoV v n) (i / 128)) (i % 128))) := by
  have hb := blkAt_len (d := dataV v) (x := inoV v n) hs (i / 128)
  rw [contV, List.getElem?_take_of_lt h, cat_get hs _ _ (by rw [needS]; omega), List.getElem?_eq_getElem (by omega)]
  congr 1
  apply UInt8.toNat_inj.1
  have : i % 128 < (blkAt (dataV v) v.length v (inoV v n) (i / 128)).length := by omega
  simp [gb, this]
theorem gb_zs (n i : Nat) : gb (zs n) i = 0 := by
  simp only [gb, zs, List.getD_eq_getElem?_getD, List.getElem?_replicate]
  split <;> rfl
theorem contV_length {v : Vol} {n : Nat} (hs : ∀ j, j < v.length → (bk v j).length = 128) : (contV v n).length = sizeX (inoV v n) := by
  have hl := catTo_len (d := dataV v) (x := inoV v n) hs (List.range (needS (sizeX (inoV v n))))
  rw [List.length_range] at hl
  rw [contV, List.length_take, hl, needS]
  omega
theorem byteCells_snoc (l : Blk) (b : Nat) (h : b < 256) : Lib.byteCells (l ++ [UInt8.ofNat b]) = Lib.byteCells l ++ [.int .u8 b] := by
  simp only [Lib.byteCells, List.map_append, List.map_cons, List.map_nil, UInt8.toNat_ofNat', Nat.mod_eq_of_lt h]
theorem read_step {v : Vol} {n off k : Nat} (hs : ∀ j, j < v.length → (bk v j).length = 128) (h : off + k < sizeX (inoV v n)) : readV v n off (k + 1) = readV v n off k ++ [UInt8.ofNat (gb (blkAt (dataV v) v.length v (inoV v n) ((off + k) / 128)) ((off + k) % 128))] := by
  rw [readV, List.take_add_one, List.getElem?_drop, cont_byte hs h]
  rfl
set_option maxHeartbeats 8000000 in
theorem rread_ok (A : Option Addr) (c : Nat) (v : Vol) (n off sz : Nat) (w : World) (hr : RS w A v) (hv : okV v = true) (h1 : 1 ≤ n) (h2 : n ≤ inosV v) (hob : (off : Int) ≤ 9223372036854775807) (hsb : (sz : Int) ≤ 9223372036854775807) :
    Calls Try.prog 21 #[.slice A v.length c, .int .i64 n, .int .i64 off, .int .i64 sz] w fun e w' => e = .returned (.tuple #[.string (mk (readV v n off sz)), .int .i64 0]) ∧ Below w.heap.size w w' := by
  obtain ⟨i0, hi0, hz0, hz1, hz2⟩ := info_parts (show (Try.prog.info? 5).map (fun i => (i.zero, i.size, i.bytes)) = some (some (.int .u8 0), 1, 1) by kernel_rfl)
  have HOK := okV_iff.1 hv
  have hlo := HOK.lo
  have hd0 : 0 < dataV v := by rw [dataV]; omega
  have HS := Lib.hid HOK.size
  have HV := Lib.hid hv
  have HR := Lib.hid hr
  obtain ⟨bA, oA, rfl, hbA, hc⟩ := hr.open_ (by omega)
  have HC := Lib.hid hc
  clear hv hr HOK hc
  have hget := Lib.hid (fun w hr => rget18_ok (some ⟨bA, oA, none⟩) c v n w hr HV.out h1 h2)
  have hdat := Lib.hid (fun w hr => rdata_ok (some ⟨bA, oA, none⟩) c v w hr HV.out)
  have hst := Lib.hid (fun k h => read_step (v := v) (n := n) (off := off) (k := k) HS.out h)
  have hcl := contV_length (v := v) (n := n) HS.out
  have hcl2 : ∀ k, off + k ≤ sizeX (inoV v n) → (readV v n off k).length = k := fun k h => by rw [readV, List.length_take, List.length_drop, hcl]; omega
  have hend : ∀ k, k ≤ sz → sizeX (inoV v n) ≤ off + k → readV v n off k = readV v n off sz := fun k h h3 => by
    rw [readV, readV, List.take_of_length_le (by rw [List.length_drop, hcl]; omega), List.take_of_length_le (by rw [List.length_drop, hcl]; omega)]
  have hr0 : readV v n off 0 = [] := by rw [readV, List.take_zero]
  have HCL2 := Lib.hid hcl2
  have HEND := Lib.hid hend
  clear hcl hcl2 hend
  obtain ⟨rd, hrd⟩ : ∃ rd, readV v n off = rd := ⟨_, rfl⟩
  rw [hrd] at hst HCL2 HEND hr0 ⊢
  clear hrd
  obtain ⟨d, hd⟩ : ∃ d, dataV v = d := ⟨_, rfl⟩
  obtain ⟨x, hX⟩ : ∃ x, inoV v n = x := ⟨_, rfl⟩
  rw [hd] at hd0 hdat hst
  rw [hX] at hget hst HCL2 HEND
  clear hd hX
  obtain ⟨s, hsx⟩ : ∃ s, sizeX x = s := ⟨_, rfl⟩
  have hs8 : s ≤ 8960 := by rw [← hsx, sizeX]; omega
  rw [hsx] at hst HCL2 HEND
  have HSX := Lib.hid hsx
  clear hsx
  have ho0 : (0 : Int) ≤ (off : Int) := by omega
  have hz0' : (0 : Int) ≤ (sz : Int) := by omega
  go_enter Try.func21, Try.ntmps21
  go_wp2_with (first
    | (go_at_call 55; refine (hget.out _ HR.out).mono ?_; rintro e w1 ⟨rfl, hb1⟩; have B1 := Lib.hid hb1; clear hb1; have B2 := Lib.hid ((B1.out.alloc B1.out.size (.cells #[.int .i64 ((x.kind : Nat) : Int), .int .i64 ((x.links : Nat) : Int), .int .i64 ((x.owner : Nat) : Int), .int .i64 ((x.size : Nat) : Int), .int .i64 ((x.d0 : Nat) : Int), .int .i64 ((x.d1 : Nat) : Int), .int .i64 ((x.d2 : Nat) : Int), .int .i64 ((x.d3 : Nat) : Int), .int .i64 ((x.d4 : Nat) : Int), .int .i64 ((x.d5 : Nat) : Int), .int .i64 ((x.ind : Nat) : Int), .int .i64 ((x.ext : Nat) : Int)] 45)).alloc (by have := B1.out.size; simp; omega) (.cells #[] 5)); have K1 := Lib.hid (heap_alloc_lt _ (.cells #[] 5) _ _ (blk_new w1 (.cells #[.int .i64 ((x.kind : Nat) : Int), .int .i64 ((x.links : Nat) : Int), .int .i64 ((x.owner : Nat) : Int), .int .i64 ((x.size : Nat) : Int), .int .i64 ((x.d0 : Nat) : Int), .int .i64 ((x.d1 : Nat) : Int), .int .i64 ((x.d2 : Nat) : Int), .int .i64 ((x.d3 : Nat) : Int), .int .i64 ((x.d4 : Nat) : Int), .int .i64 ((x.d5 : Nat) : Int), .int .i64 ((x.ind : Nat) : Int), .int .i64 ((x.ext : Nat) : Int)] 45))); have O1 := Lib.hid (own_new 5 (w1.alloc (.cells #[.int .i64 ((x.kind : Nat) : Int), .int .i64 ((x.links : Nat) : Int), .int .i64 ((x.owner : Nat) : Int), .int .i64 ((x.size : Nat) : Int), .int .i64 ((x.d0 : Nat) : Int), .int .i64 ((x.d1 : Nat) : Int), .int .i64 ((x.d2 : Nat) : Int), .int .i64 ((x.d3 : Nat) : Int), .int .i64 ((x.d4 : Nat) : Int), .int .i64 ((x.d5 : Nat) : Int), .int .i64 ((x.ind : Nat) : Int), .int .i64 ((x.ext : Nat) : Int)] 45))))
    | (go_at_call 56; refine (hdat.out _ (HR.out.below B2.out)).mono ?_; rintro e w2 ⟨rfl, hb2⟩; have B3 := Lib.hid (below_keep B2.out (Nat.le_refl _) hb2); have K2 := Lib.hid (blk_keep K1.out hb2); have O2 := Lib.hid (own_below O1.out hb2); clear hb2))
  have hs1 := B1.out.size
  have hsa : (w1.alloc (.cells #[.int .i64 ((x.kind : Nat) : Int), .int .i64 ((x.links : Nat) : Int), .int .i64 ((x.owner : Nat) : Int), .int .i64 ((x.size : Nat) : Int), .int .i64 ((x.d0 : Nat) : Int), .int .i64 ((x.d1 : Nat) : Int), .int .i64 ((x.d2 : Nat) : Int), .int .i64 ((x.d3 : Nat) : Int), .int .i64 ((x.d4 : Nat) : Int), .int .i64 ((x.d5 : Nat) : Int), .int .i64 ((x.ind : Nat) : Int), .int .i64 ((x.ext : Nat) : Int)] 45)).heap.size = w1.heap.size + 1 := by simp
  rw [hsa] at O2
  generalize w1.heap.size = q at *
  have hwq : w.heap.size ≤ q := by omega
  have hownq : ∀ r, (Value.slice (some ⟨q + 1, 0, none⟩) 0 0).ownBlock = some r → r ≠ q := fun r e => by
    have e2 : some (q + 1) = some r := e
    have := Option.some.inj e2
    omega
  have HOQ := Lib.hid hownq
  clear hownq
  have HCL3 : ∀ k, off + k ≤ s ∨ k = 0 → (rd k).length = k := fun k h => by
    rcases h with h | rfl
    · exact HCL2.out k h
    · rw [hr0]; rfl
  have HLen := Lib.hid HCL3
  clear HCL3
  have hini : Hid (w2.ownsRow w.heap.size 5 1 (.slice (some ⟨q + 1, 0, none⟩) 0 0) 0 (Lib.byteCells (rd 0)) ∧ (∀ r, (Value.slice (some ⟨q + 1, 0, none⟩) 0 0).ownBlock = some r → r ≠ q)) := ⟨by rw [hr0]; exact own_base O2.out (by omega), HOQ.out⟩
  clear hr0
  go_loopw [12, 14] (fun uv iv wr => ∃ k i : Nat, off + k = i ∧ (i ≤ s ∨ k = 0) ∧ k ≤ sz ∧ iv = .int .i64 i ∧ Hid (wr.ownsRow w.heap.size 5 1 uv k (Lib.byteCells (rd k)) ∧ (∀ g, uv.ownBlock = some g → g ≠ q)) ∧ Hid (wr.heap[q]? = some (.cells #[.int .i64 ((x.kind : Nat) : Int), .int .i64 ((x.links : Nat) : Int), .int .i64 ((x.owner : Nat) : Int), .int .i64 ((x.size : Nat) : Int), .int .i64 ((x.d0 : Nat) : Int), .int .i64 ((x.d1 : Nat) : Int), .int .i64 ((x.d2 : Nat) : Int), .int .i64 ((x.d3 : Nat) : Int), .int .i64 ((x.d4 : Nat) : Int), .int .i64 ((x.d5 : Nat) : Int), .int .i64 ((x.ind : Nat) : Int), .int .i64 ((x.ext : Nat) : Int)] 45 (0, 0))) ∧ Hid (Below w.heap.size w wr)) (fun _ iv _ => s - (intOf iv).toNat)
  case atStart => exact ⟨0, off, rfl, .inr rfl, by omega, rfl, hini, K2, B3⟩
  case round =>
    obtain ⟨k, i, hi, his, hk, rfl, ho, hq, hB⟩ := hrel
    obtain ⟨ua, uc, rfl⟩ := own_slice ho.out.1
    obtain ⟨q0, q1, q2, q3, q4, q5, q6, q7, q8, q9, q10, q11⟩ := cells12 hq.out
    by_cases hlt : i < s
    · have hii : (i : Int) < (s : Int) := by omega
      by_cases hks : k < sz
      · have hki : (k : Int) < (sz : Int) := by omega
        obtain ⟨kk, hkk⟩ : ∃ kk, i / 128 = kk := ⟨_, rfl⟩
        obtain ⟨r, hr⟩ : ∃ r, i % 128 = r := ⟨_, rfl⟩
        have hkq : (i : Int) / 128 = (kk : Int) := by omega
        have hkr : (i : Int).tmod 128 = (r : Int) := by rw [Int.tmod_eq_emod_of_nonneg (by omega)]; omega
        have hwk : IntKind.i64.wrap (kk : Int) = (kk : Int) := by simp [IntKind.wrap, IntKind.bits, IntKind.signed]; omega
        have hwr : IntKind.i64.wrap (r : Int) = (r : Int) := by simp [IntKind.wrap, IntKind.bits, IntKind.signed]; omega
        have hwi : IntKind.i64.wrap ((i : Int) + 1) = (i : Int) + 1 := by simp [IntKind.wrap, IntKind.bits, IntKind.signed]; omega
        have hr128 : r < 128 := by omega
        have hsn := hst.out k (by omega)
        rw [hi, hkk, hr] at hsn
        obtain ⟨b, hb⟩ : ∃ b, atN d v.length v x kk = b := ⟨_, rfl⟩
        have HBB := Lib.hid hb
        have hbe : blkAt d v.length v x kk = if b = 0 then zs 128 else bk v b := by rw [blkAt, hb]
        have hbl : b ≠ 0 → d ≤ b ∧ b < v.length := by rw [← hb]; exact atN_lt
        rw [hbe] at hsn
        have HSN := Lib.hid hsn
        clear hb hsn hbe
        have hfin : ∀ (w4 w5 : World) (u' : Value) (y : Nat), y < 256 → rd (k + 1) = rd k ++ [UInt8.ofNat y] → Below wr.heap.size wr w4 → w5.ownsRow w.heap.size 5 1 u' (k + 1) (Lib.byteCells (rd k) ++ [.int .u8 y]) → (w4.alloc (.cells #[.int .u8 y] 5)).grownBy w5 (Value.slice ua k uc).ownBlock → (u'.ownBlock = (Value.slice ua k uc).ownBlock ∨ u'.ownBlock = some (w4.alloc (.cells #[.int .u8 y] 5)).heap.size) →
            Hid (w5.ownsRow w.heap.size 5 1 u' (k + 1) (Lib.byteCells (rd (k + 1))) ∧ (∀ g, u'.ownBlock = some g → g ≠ q)) ∧ Hid (w5.heap[q]? = some (.cells #[.int .i64 ((x.kind : Nat) : Int), .int .i64 ((x.links : Nat) : Int), .int .i64 ((x.owner : Nat) : Int), .int .i64 ((x.size : Nat) : Int), .int .i64 ((x.d0 : Nat) : Int), .int .i64 ((x.d1 : Nat) : Int), .int .i64 ((x.d2 : Nat) : Int), .int .i64 ((x.d3 : Nat) : Int), .int .i64 ((x.d4 : Nat) : Int), .int .i64 ((x.d5 : Nat) : Int), .int .i64 ((x.ind : Nat) : Int), .int .i64 ((x.ext : Nat) : Int)] 45 (0, 0))) ∧ Hid (Below w.heap.size w w5) := by
          intro w4 w5 u' y hy hsn hb4 hown hgr how
          have hsz4 := hb4.size
          have hro : ∀ r, (Value.slice ua k uc).ownBlock = some r → w.heap.size ≤ r := fun r e => (ho.out.1.lt r e).1
          have hlr := blk_lt hq.out
          have hBs := hB.out.size
          refine ⟨⟨?_, fun r e => ?_⟩, ?_, ?_⟩
          · rw [hsn, byteCells_snoc _ _ hy]
            exact hown
          · rcases how with h | h
            · rw [h] at e
              exact ho.out.2 r e
            · rw [h] at e
              have := Option.some.inj e
              simp at this
              omega
          · exact (hgr.block q (by simp; omega) (fun e => ho.out.2 q e.symm rfl)).trans (blk_keep hq.out (hb4.alloc hb4.size _))
          · exact (below_keep hB.out (by omega) (hb4.alloc hb4.size _)).grown hgr (by simp; omega) (fun r e => hro r e)
        have HFin := Lib.hid hfin
        clear hfin
        by_cases h0 : b = 0
        · subst h0
          go_wp2_with (first
            | (go_at_call 58; refine (rsize_ok x _).mono ?_; rw [HSX.out]; rintro e w3 ⟨rfl, hb3⟩; have hq3 := blk_keep hq.out hb3; obtain ⟨q0, q1, q2, q3, q4, q5, q6, q7, q8, q9, q10, q11⟩ := cells12 hq3; have B5 := Lib.hid hb3; clear hb3 hq3)
            | (go_at_call 59; refine (rat_ok _ c d v.length v x kk _ ((HR.out.below hB.out).below B5.out) rfl (by omega) hd0 HS.out).mono ?_; rw [HBB.out]; rintro e w4 ⟨rfl, hb4⟩; have B4 := Lib.hid (below_keep B5.out (Nat.le_refl _) hb4); clear hb4)
            | (at_builtin; refine wpList_append_own_at _ rfl _ _ 62 rfl w.heap.size 5 i0 (.int .u8 0) 1 1 Try.underlying62 hi0 hz0 hz1 hz2 rfl (by decide) _ k _ rfl (own_below ho.out.1 (B4.out.alloc B4.out.size _)) ⟨w4.heap.size, 0, none⟩ 1 1 [.int .u8 _] rfl rfl (cell_one_new _ _ _) (by simp [Value.oneCell']) (by simp only [maxLen]; omega) (by omega) (by have := B4.out.size; have := hB.out.size; simp; omega) ?_; intro u' w5 hown' hgrow _ howb; have EG := Lib.hid hgrow; have EO := Lib.hid hown'; have EB := Lib.hid howb; clear hgrow hown' howb))
          obtain ⟨z1, z2, z3⟩ := HFin.out w4 w5 u' 0 (by omega) (by rw [HSN.out, if_pos trivial, gb_zs]) B4.out EO.out EG.out EB.out
          exact ⟨⟨k + 1, i + 1, by omega, by omega, by omega, by go_num, z1, z2, z3⟩, by simp only [intOf]; omega⟩
        · have hbl2 := hbl h0
          have hbp : (0 : Int) < (b : Int) := by omega
          have hbv : (b : Int) < (v.length : Int) := by omega
          obtain ⟨B, hBk⟩ : ∃ B, bk v b = B := ⟨_, rfl⟩
          have hB128 := HS.out b hbl2.2
          have hcb := HC.out b hbl2.2
          rw [hBk] at hB128 hcb
          have hsn2 := HSN.out
          rw [if_neg h0, hBk] at hsn2
          have HSN2 := Lib.hid hsn2
          have HCB := Lib.hid hcb
          clear hcb hsn2 hBk hbl
          have hr1 : (r : Int) < 128 := by omega
          go_wp2_with (first
            | (go_at_call 58; refine (rsize_ok x _).mono ?_; rw [HSX.out]; rintro e w3 ⟨rfl, hb3⟩; have hq3 := blk_keep hq.out hb3; obtain ⟨q0, q1, q2, q3, q4, q5, q6, q7, q8, q9, q10, q11⟩ := cells12 hq3; have B5 := Lib.hid hb3; clear hb3 hq3)
            | (go_at_call 59; refine (rat_ok _ c d v.length v x kk _ ((HR.out.below hB.out).below B5.out) rfl (by omega) hd0 HS.out).mono ?_; rw [HBB.out]; rintro e w4 ⟨rfl, hb4⟩; have B4 := Lib.hid (below_keep B5.out (Nat.le_refl _) hb4); have cb4 := cell_keep HCB.out (below_keep hB.out (Nat.le_refl _) B4.out); clear hb4)
            | (at_builtin; refine wpList_append_own_at _ rfl _ _ 62 rfl w.heap.size 5 i0 (.int .u8 0) 1 1 Try.underlying62 hi0 hz0 hz1 hz2 rfl (by decide) _ k _ rfl (own_below ho.out.1 (B4.out.alloc B4.out.size _)) ⟨w4.heap.size, 0, none⟩ 1 1 [.int .u8 _] rfl rfl (cell_one_new _ _ _) (by simp [Value.oneCell']) (by simp only [maxLen]; omega) (by omega) (by have := B4.out.size; have := hB.out.size; simp; omega) ?_; intro u' w5 hown' hgrow _ howb; have EG := Lib.hid hgrow; have EO := Lib.hid hown'; have EB := Lib.hid howb; clear hgrow hown' howb))
          obtain ⟨z1, z2, z3⟩ := HFin.out w4 w5 u' (gb B r) (gb_lt _ _) HSN2.out B4.out EO.out EG.out EB.out
          exact ⟨⟨k + 1, i + 1, by omega, by omega, by omega, by go_num, z1, z2, z3⟩, by simp only [intOf]; omega⟩
      · have hki : ¬ (k : Int) < (sz : Int) := by omega
        obtain rfl : k = sz := by omega
        go_wp2_with (go_at_call 58; refine (rsize_ok x _).mono ?_; rw [HSX.out]; rintro e w3 ⟨rfl, hb3⟩; have hcv := own_str (own_below ho.out.1 hb3) (HLen.out k (by omega)); have B5 := Lib.hid hb3; clear hb3)
        go_ret2
        exact ⟨rfl, below_keep hB.out (Nat.le_refl _) B5.out⟩
    · have hii : ¬ (i : Int) < (s : Int) := by omega
      have he := HEND.out k hk (by omega)
      have HE := Lib.hid he
      clear he
      go_wp2_with (go_at_call 58; refine (rsize_ok x _).mono ?_; rw [HSX.out]; rintro e w3 ⟨rfl, hb3⟩; have hcv := own_str (own_below ho.out.1 hb3) (HLen.out k (by omega)); have B5 := Lib.hid hb3; clear hb3)
      go_ret2
      exact ⟨by rw [HE.out]; rfl, below_keep hB.out (Nat.le_refl _) B5.out⟩
end Go.Proofs.Ytacdohlhalnioaa
end

/- Joined: XBB XH1 XH2 XH3 XH4. -/
import Derived.Test.YtacdohlhalnioaaJ7
import Derived.Test.YtacdohlhalnioaaJG
import Derived.Test.YtacdohlhalnioaaJ6
import Derived.Deep.Cut
/- Bytes: a number put into two bytes, pieces that are joined, two rows of the same bytes. -/
section
set_option linter.unusedVariables false
set_option linter.unusedSimpArgs false
set_option maxRecDepth 20000
namespace Go.Proofs.Ytacdohlhalnioaa
open Go.RowKit

def setB (s : Blk) (p m : Nat) : Blk := s.take p ++ ple m 2 ++ s.drop (p + 2)
theorem setB_length (s : Blk) (p m : Nat) (h : p + 2 ≤ s.length) : (setB s p m).length = s.length := by
  simp [setB, ple_length]
  omega
theorem gb_append_left (a b : Blk) (i : Nat) (h : i < a.length) : gb (a ++ b) i = gb a i := by
  simp [gb, List.getD_eq_getElem?_getD, List.getElem?_append_left h]
theorem gb_append_right (a b : Blk) (i : Nat) (h : a.length ≤ i) : gb (a ++ b) i = gb b (i - a.length) := by
  simp [gb, List.getD_eq_getElem?_getD, List.getElem?_append_right h]
theorem gb_ple (m k j : Nat) (h : j < k) : gb (ple m k) j = m / 256 ^ j % 256 := by
  simp [gb, List.getD_eq_getElem?_getD, ple_get m k j h]
theorem gb_setB (s : Blk) (p m i : Nat) (h : p + 2 ≤ s.length) : gb (setB s p m) i = if i = p then m % 256 else if i = p + 1 then m / 256 % 256 else gb s i := by
  have h1 : (s.take p).length = p := by rw [List.length_take]; omega
  have h2 : (s.take p ++ ple m 2).length = p + 2 := by rw [List.length_append, h1, ple_length]
  rw [setB]
  by_cases h3 : i < p
  · rw [if_neg (by omega), if_neg (by omega), gb_append_left _ _ _ (by omega), gb_append_left _ _ _ (by omega), gb_take _ _ _ h3]
  · by_cases h4 : i < p + 2
    · rw [gb_append_left _ _ _ (by omega), gb_append_right _ _ _ (by omega), h1, gb_ple _ _ _ (by omega)]
      rcases (by omega : i = p ∨ i = p + 1) with rfl | rfl
      · simp
      · simp
    · rw [if_neg (by omega), if_neg (by omega), gb_append_right _ _ _ (by omega), h2, gb_drop]
      congr 1
      omega
theorem blk_ext {a b : Blk} (hl : a.length = b.length) (h : ∀ i, i < a.length → gb a i = gb b i) : a = b := by
  refine List.ext_getElem hl (fun i h1 h2 => ?_)
  have := h i h1
  simp only [gb, List.getD_eq_getElem?_getD, List.getElem?_eq_getElem h1, List.getElem?_eq_getElem h2, Option.getD_some] at this
  exact UInt8.toNat_inj.1 this
end Go.Proofs.Ytacdohlhalnioaa
end

/- Helpers for the document's layer 19: a struct of fifteen cells; a volume with another block; a number put into a block. -/
section
set_option linter.unusedVariables false
set_option linter.unusedSimpArgs false
set_option maxRecDepth 20000
namespace Go.Proofs.Ytacdohlhalnioaa
open Go.RowKit
attribute [local go_sem] Oper.semAt_some

theorem cells15 {w : World} {b t : Nat} {a0 a1 a2 a3 a4 a5 a6 a7 a8 a9 a10 a11 a12 a13 a14 : Value} {fz : Nat × Nat} (h : w.heap[b]? = some (.cells #[a0, a1, a2, a3, a4, a5, a6, a7, a8, a9, a10, a11, a12, a13, a14] t fz)) :
    w.cell? ⟨b, 0, none⟩ = some a0 ∧ w.cell? ⟨b, 1, none⟩ = some a1 ∧ w.cell? ⟨b, 2, none⟩ = some a2 ∧ w.cell? ⟨b, 3, none⟩ = some a3 ∧ w.cell? ⟨b, 4, none⟩ = some a4 ∧ w.cell? ⟨b, 5, none⟩ = some a5 ∧ w.cell? ⟨b, 6, none⟩ = some a6 ∧ w.cell? ⟨b, 7, none⟩ = some a7 ∧ w.cell? ⟨b, 8, none⟩ = some a8 ∧ w.cell? ⟨b, 9, none⟩ = some a9 ∧ w.cell? ⟨b, 10, none⟩ = some a10 ∧ w.cell? ⟨b, 11, none⟩ = some a11 ∧ w.cell? ⟨b, 12, none⟩ = some a12 ∧ w.cell? ⟨b, 13, none⟩ = some a13 ∧ w.cell? ⟨b, 14, none⟩ = some a14 := by
  refine ⟨?_, ?_, ?_, ?_, ?_, ?_, ?_, ?_, ?_, ?_, ?_, ?_, ?_, ?_, ?_⟩ <;> rw [cell_at h] <;> rfl
theorem frees15 {w : World} {b t : Nat} {cs : Array Value} (h : w.heap[b]? = some (.cells cs t (0, 0))) :
    w.frozen? ⟨b, 0, none⟩ = false ∧ w.frozen? ⟨b, 1, none⟩ = false ∧ w.frozen? ⟨b, 2, none⟩ = false ∧ w.frozen? ⟨b, 3, none⟩ = false ∧ w.frozen? ⟨b, 4, none⟩ = false ∧ w.frozen? ⟨b, 5, none⟩ = false ∧ w.frozen? ⟨b, 6, none⟩ = false ∧ w.frozen? ⟨b, 7, none⟩ = false ∧ w.frozen? ⟨b, 8, none⟩ = false ∧ w.frozen? ⟨b, 9, none⟩ = false ∧ w.frozen? ⟨b, 10, none⟩ = false ∧ w.frozen? ⟨b, 11, none⟩ = false ∧ w.frozen? ⟨b, 12, none⟩ = false ∧ w.frozen? ⟨b, 13, none⟩ = false ∧ w.frozen? ⟨b, 14, none⟩ = false := by
  refine ⟨?_, ?_, ?_, ?_, ?_, ?_, ?_, ?_, ?_, ?_, ?_, ?_, ?_, ?_, ?_⟩ <;> simp [World.frozen?, h]
theorem blk_set15 {w : World} {k t : Nat} {b0 b1 b2 b3 b4 b5 b6 b7 b8 b9 b10 b11 b12 b13 b14 a0 a1 a2 a3 a4 a5 a6 a7 a8 a9 a10 a11 a12 a13 a14 : Value} {fz : Nat × Nat} (h : w.heap[k]? = some (.cells #[b0, b1, b2, b3, b4, b5, b6, b7, b8, b9, b10, b11, b12, b13, b14] t fz)) :
    (((((((((((((((w.setCell ⟨k, 0, none⟩ a0).setCell ⟨k, 1, none⟩ a1).setCell ⟨k, 2, none⟩ a2).setCell ⟨k, 3, none⟩ a3).setCell ⟨k, 4, none⟩ a4).setCell ⟨k, 5, none⟩ a5).setCell ⟨k, 6, none⟩ a6).setCell ⟨k, 7, none⟩ a7).setCell ⟨k, 8, none⟩ a8).setCell ⟨k, 9, none⟩ a9).setCell ⟨k, 10, none⟩ a10).setCell ⟨k, 11, none⟩ a11).setCell ⟨k, 12, none⟩ a12).setCell ⟨k, 13, none⟩ a13).setCell ⟨k, 14, none⟩ a14).heap[k]? = some (.cells #[a0, a1, a2, a3, a4, a5, a6, a7, a8, a9, a10, a11, a12, a13, a14] t fz) := by
  refine (blk_set (blk_set (blk_set (blk_set (blk_set (blk_set (blk_set (blk_set (blk_set (blk_set (blk_set (blk_set (blk_set (blk_set (blk_set (h) 0 a0) 1 a1) 2 a2) 3 a3) 4 a4) 5 a5) 6 a6) 7 a7) 8 a8) 9 a9) 10 a10) 11 a11) 12 a12) 13 a13) 14 a14).trans ?_
  simp
theorem heap_set15 {w : World} {k D : Nat} {o : Obj} {a0 a1 a2 a3 a4 a5 a6 a7 a8 a9 a10 a11 a12 a13 a14 : Value} (h : w.heap[D]? = some o) (hne : D ≠ k) : (((((((((((((((w.setCell ⟨k, 0, none⟩ a0).setCell ⟨k, 1, none⟩ a1).setCell ⟨k, 2, none⟩ a2).setCell ⟨k, 3, none⟩ a3).setCell ⟨k, 4, none⟩ a4).setCell ⟨k, 5, none⟩ a5).setCell ⟨k, 6, none⟩ a6).setCell ⟨k, 7, none⟩ a7).setCell ⟨k, 8, none⟩ a8).setCell ⟨k, 9, none⟩ a9).setCell ⟨k, 10, none⟩ a10).setCell ⟨k, 11, none⟩ a11).setCell ⟨k, 12, none⟩ a12).setCell ⟨k, 13, none⟩ a13).setCell ⟨k, 14, none⟩ a14).heap[D]? = some o :=
  blk_set_other (blk_set_other (blk_set_other (blk_set_other (blk_set_other (blk_set_other (blk_set_other (blk_set_other (blk_set_other (blk_set_other (blk_set_other (blk_set_other (blk_set_other (blk_set_other (blk_set_other (h) hne _ _) hne _ _) hne _ _) hne _ _) hne _ _) hne _ _) hne _ _) hne _ _) hne _ _) hne _ _) hne _ _) hne _ _) hne _ _) hne _ _) hne _ _
theorem below_set15 {B k : Nat} {w0 w : World} {a0 a1 a2 a3 a4 a5 a6 a7 a8 a9 a10 a11 a12 a13 a14 : Value} (h : Below B w0 w) (hk : B ≤ k) : Below B w0 (((((((((((((((w.setCell ⟨k, 0, none⟩ a0).setCell ⟨k, 1, none⟩ a1).setCell ⟨k, 2, none⟩ a2).setCell ⟨k, 3, none⟩ a3).setCell ⟨k, 4, none⟩ a4).setCell ⟨k, 5, none⟩ a5).setCell ⟨k, 6, none⟩ a6).setCell ⟨k, 7, none⟩ a7).setCell ⟨k, 8, none⟩ a8).setCell ⟨k, 9, none⟩ a9).setCell ⟨k, 10, none⟩ a10).setCell ⟨k, 11, none⟩ a11).setCell ⟨k, 12, none⟩ a12).setCell ⟨k, 13, none⟩ a13).setCell ⟨k, 14, none⟩ a14) :=
  below_set0 (below_set0 (below_set0 (below_set0 (below_set0 (below_set0 (below_set0 (below_set0 (below_set0 (below_set0 (below_set0 (below_set0 (below_set0 (below_set0 (below_set0 (h) hk) hk) hk) hk) hk) hk) hk) hk) hk) hk) hk) hk) hk) hk) hk
theorem put2_setB (s : Blk) (a n : Nat) (h : a + 2 ≤ s.length) : put2 s a n = setB s a n := by
  refine blk_ext (by rw [put2_length, setB_length _ _ _ h]) (fun i _ => ?_)
  rw [gb_setB _ _ _ _ h, put2, gb_set' _ _ _ _ (by simp; omega), gb_set' _ _ _ _ (by omega)]
  by_cases h1 : i = a + 1
  · rw [if_pos h1, if_neg (by omega), if_pos h1]
  · rw [if_neg h1]
    by_cases h2 : i = a
    · rw [if_pos h2, if_pos h2]
    · rw [if_neg h2, if_neg h2, if_neg h1]
set_option maxHeartbeats 400000 in
theorem rwith19_ok (A : Option Addr) (c : Nat) (v : Vol) (i : Nat) (s : Blk) (w : World) (n : Nat) (hn : v.length = n) (hr : RS w A v) (hi : i < v.length) :
    Calls Try.prog 81 #[.slice A n c, .int .i64 i, .string (mk s)] w fun e w' => ∃ g c', e = .returned (.slice (some ⟨g, 0, none⟩) n c') ∧ VS w' g (v.set i s) ∧ w.heap.size ≤ g ∧ Below w.heap.size w w' := by
  subst hn
  have hl := hr.1
  obtain ⟨bA, oA, rfl, hbA, hc⟩ := hr.open_ (by omega)
  have HC := Lib.hid hc
  clear hr hc
  have hi' : (i : Int) < (v.length : Nat) := by omega
  obtain ⟨i0, hi0, hz0, hz1, hz2⟩ := info_parts (show (Try.prog.info? 9).map (fun i => (i.zero, i.size, i.bytes)) = some (some (.string (mk [])), 1, 16) by kernel_rfl)
  go_enter Try.func81, Try.ntmps81
  have HO := Lib.hid (own_new 9 w)
  go_wp2_with (at_builtin; refine wpList_append_own _ rfl _ _ 22 rfl w.heap.size 9 i0 _ 1 16 Try.underlying22 hi0 hz0 hz1 hz2 rfl (by decide) _ 0 [] rfl HO.out ⟨bA, oA, none⟩ v.length c (strs v) rfl (by rw [strs_length, Nat.mul_one]) ?hn (strs_one v) (by simp only [maxLen]; omega) (by omega) (by simp) ?hk)
  case hn =>
    intro j u hu
    have hj : j < v.length := by
      rw [← strs_length v]
      exact (List.getElem?_eq_some_iff.1 hu).1
    rw [strs_get v j hj] at hu
    injection hu with hu
    subst hu
    exact cell_keep (src_cell (HC.out j hj)) ((Below.refl _ _).alloc (Nat.le_refl _) _)
  case hk =>
    intro u w1 hown1 hgrow _
    have hb1 : Below w.heap.size w w1 := ((Below.refl _ _).alloc (Nat.le_refl _) _).grown hgrow (by simp) (fun k e => by cases e; exact Nat.le_refl _)
    obtain ⟨g, cap, rfl, hg, hv1⟩ := VB.of_own hown1 rfl (by omega)
    clear hown1 hgrow
    have hcell := hv1.cell i hi
    have hfree := hv1.free i
    have HV := Lib.hid hv1
    clear hv1
    go_wp2
    go_ret
    exact ⟨_, _, rfl, HV.out.set i s hi, hg, below_set hb1 hg⟩
set_option maxHeartbeats 4000000 in
theorem put19_ok (s : Blk) (p m : Nat) (w : World) (s1 : s.length = 128) (hp : p + 2 ≤ 128) (hm : m < 65536) :
    Calls Try.prog 113 #[.string (mk s), .int .i64 p, .int .i64 m] w fun e w' => e = .returned (.string (mk (put2 s p m))) ∧ Below w.heap.size w w' := by
  rw [put2_setB s p m (by omega), setB]
  have hpm := ple_length m 2
  have hg0 := gb_ple m 2 0 (by omega)
  have hg1 := gb_ple m 2 1 (by omega)
  obtain ⟨pm, hp2⟩ : ∃ pm, ple m 2 = pm := ⟨_, rfl⟩
  rw [hp2] at hpm hg0 hg1 ⊢
  obtain ⟨r0, hr0⟩ : ∃ r0, m % 256 = r0 := ⟨_, rfl⟩
  obtain ⟨q0, hq0⟩ : ∃ q0, m / 256 = q0 := ⟨_, rfl⟩
  have hgr : gb pm 0 = r0 := by rw [hg0]; simpa using hr0
  have hgq : gb pm 1 = q0 := by rw [hg1]; simp; omega
  have hrm : (m : Int).tmod 256 = (r0 : Int) := by rw [Int.tmod_eq_emod_of_nonneg (by omega)]; omega
  have hqm : (m : Int) / 256 = (q0 : Int) := by omega
  have hwq : IntKind.i64.wrap (q0 : Int) = (q0 : Int) := by simp [IntKind.wrap, IntKind.bits, IntKind.signed]; omega
  have hwu0 : IntKind.u8.wrap (r0 : Int) = (r0 : Int) := by rw [wrap_u8]; omega
  have hwu1 : IntKind.u8.wrap (q0 : Int) = (q0 : Int) := by rw [wrap_u8]; omega
  have hio : (p : Int) ≤ 128 := by omega
  have hmo : min p 128 = p := by omega
  have hc1' : ¬ (9223372036854775807 < p + 2) := by omega
  have hc2 : ¬ (9223372036854775807 < p + 2 + (126 - p)) := by omega
  have hc4 : ¬ ((128 : Int) < (p : Int) + 2) := by omega
  have hc5 : (p : Int) + 2 ≤ 128 := by omega
  have hw1 : IntKind.i64.wrap ((p : Int) + 2) = (p : Int) + 2 := by simp [IntKind.wrap, IntKind.bits, IntKind.signed]; omega
  have hw2 : ((p : Int) + 2).toNat = p + 2 := by omega
  have hp1 : (0 : Int) ≤ (p : Int) + 2 := by omega
  have htk : List.take (126 - p) (List.drop (p + 2) s) = List.drop (p + 2) s := List.take_of_length_le (by simp [s1])
  have hst : (convert 62 9 (.slice (some ⟨w.heap.size, 0, none⟩) 2 2)).run Try.prog (w.alloc (.cells #[.int .u8 r0, .int .u8 q0] 5)).drew = .ok (.string (mk pm)) (w.alloc (.cells #[.int .u8 r0, .int .u8 q0] 5)).drew := str_of_u8 _ w.heap.size 0 2 2 pm hpm (fun j hj => by
    rw [Nat.zero_add]
    show (w.alloc (.cells #[.int .u8 r0, .int .u8 q0] 5)).cell? _ = _
    rw [cell_at (blk_new w _)]
    rcases (by omega : j = 0 ∨ j = 1) with rfl | rfl
    · rw [hgr]; rfl
    · rw [hgq]; rfl)
  clear hp2 hr0 hq0 hg0 hg1
  go_enter Try.func113, Try.ntmps113
  go_wp2
  refine region_P (fun w' => True) [] (by kernel_rfl) ?_ (fun hHeld => ?_)
  · exact trivial
  refine wpP_take (i := 0) (oi := ?oi642001) (v := ?v642001) ?hi642001 (by kernel_rfl) (by kernel_rfl) (by kernel_rfl) (by kernel_rfl) ?hQ642001 ?hy642001 (by assumption) ?rest642001
  case hi642001 => (simp only [List.getElem?_toArray, List.getElem?_cons_succ, List.getElem?_cons_zero]; exact rfl)
  case hQ642001 => exact fun _ _ _ h => h
  case hy642001 => (refine Or.inl ⟨by kernel_rfl, ?_⟩; intro w hSw; (try dsimp only at hSw); go_simp; try (with_reducible rfl))
  try simp only [Act.put, List.setIfInBounds_toArray, List.set_cons_zero, List.set_cons_succ]
  refine wpP_take (i := 1) (oi := ?oi642002) (v := ?v642002) ?hi642002 (by kernel_rfl) (by kernel_rfl) (by kernel_rfl) (by kernel_rfl) ?hQ642002 ?hy642002 (by assumption) ?rest642002
  case hi642002 => (simp only [List.getElem?_toArray, List.getElem?_cons_succ, List.getElem?_cons_zero]; exact rfl)
  case hQ642002 => exact fun _ _ _ h => h
  case hy642002 => (refine Or.inl ⟨by kernel_rfl, ?_⟩; intro w hSw; (try dsimp only at hSw); go_simp; try (with_reducible rfl))
  try simp only [Act.put, List.setIfInBounds_toArray, List.set_cons_zero, List.set_cons_succ]
  refine wpP_take (i := 2) (oi := ?oi642003) (v := ?v642003) ?hi642003 (by kernel_rfl) (by kernel_rfl) (by kernel_rfl) (by kernel_rfl) ?hQ642003 ?hy642003 (by assumption) ?rest642003
  case hi642003 => (simp only [List.getElem?_toArray, List.getElem?_cons_succ, List.getElem?_cons_zero]; exact rfl)
  case hQ642003 => exact fun _ _ _ h => h
  case hy642003 => (refine Or.inl ⟨by kernel_rfl, ?_⟩; intro w hSw; (try dsimp only at hSw); go_simp; try (with_reducible rfl))
  try simp only [Act.put, List.setIfInBounds_toArray, List.set_cons_zero, List.set_cons_succ]
  refine wpP_take (i := 3) (oi := ?oi642004) (v := ?v642004) ?hi642004 (by kernel_rfl) (by kernel_rfl) (by kernel_rfl) (by kernel_rfl) ?hQ642004 ?hy642004 (by assumption) ?rest642004
  case hi642004 => (simp only [List.getElem?_toArray, List.getElem?_cons_succ, List.getElem?_cons_zero]; exact rfl)
  case hQ642004 => exact fun _ _ _ h => h
  case hy642004 => (refine Or.inl ⟨by kernel_rfl, ?_⟩; intro w hSw; (try dsimp only at hSw); go_simp; try (with_reducible rfl))
  try simp only [Act.put, List.setIfInBounds_toArray, List.set_cons_zero, List.set_cons_succ]
  refine wpP_take (i := 4) (oi := ?oi642005) (v := ?v642005) ?hi642005 (by kernel_rfl) (by kernel_rfl) (by kernel_rfl) (by kernel_rfl) ?hQ642005 ?hy642005 (by assumption) ?rest642005
  case hi642005 => (simp only [List.getElem?_toArray, List.getElem?_cons_succ, List.getElem?_cons_zero]; exact rfl)
  case hQ642005 => exact fun _ _ _ h => h
  case hy642005 => (refine Or.inl ⟨by kernel_rfl, ?_⟩; intro w hSw; (try dsimp only at hSw); go_simp; try (with_reducible rfl))
  try simp only [Act.put, List.setIfInBounds_toArray, List.set_cons_zero, List.set_cons_succ]
  refine wpP_take (i := 5) (oi := ?oi642006) (v := ?v642006) ?hi642006 (by kernel_rfl) (by kernel_rfl) (by kernel_rfl) (by kernel_rfl) ?hQ642006 ?hy642006 (by assumption) ?rest642006
  case hi642006 => (simp only [List.getElem?_toArray, List.getElem?_cons_succ, List.getElem?_cons_zero]; exact rfl)
  case hQ642006 => exact fun _ _ _ h => h
  case hy642006 => (refine Or.inl ⟨by kernel_rfl, ?_⟩; intro w hSw; (try dsimp only at hSw); go_simp; try (with_reducible rfl))
  try simp only [Act.put, List.setIfInBounds_toArray, List.set_cons_zero, List.set_cons_succ]
  refine wpP_take (i := 6) (oi := ?oi642007) (v := ?v642007) ?hi642007 (by kernel_rfl) (by kernel_rfl) (by kernel_rfl) (by kernel_rfl) ?hQ642007 ?hy642007 (by assumption) ?rest642007
  case hi642007 => (simp only [List.getElem?_toArray, List.getElem?_cons_succ, List.getElem?_cons_zero]; exact rfl)
  case hQ642007 => exact fun _ _ _ h => h
  case hy642007 => (refine Or.inl ⟨by kernel_rfl, ?_⟩; intro w hSw; (try dsimp only at hSw); go_simp; try (with_reducible rfl))
  try simp only [Act.put, List.setIfInBounds_toArray, List.set_cons_zero, List.set_cons_succ]
  refine wpP_take (i := 7) (oi := ?oi642008) (v := ?v642008) ?hi642008 (by kernel_rfl) (by kernel_rfl) (by kernel_rfl) (by kernel_rfl) ?hQ642008 ?hy642008 (by assumption) ?rest642008
  case hi642008 => (simp only [List.getElem?_toArray, List.getElem?_cons_succ, List.getElem?_cons_zero]; exact rfl)
  case hQ642008 => exact fun _ _ _ h => h
  case hy642008 => (refine Or.inl ⟨by kernel_rfl, ?_⟩; intro w hSw; (try dsimp only at hSw); go_simp; try (with_reducible rfl))
  try simp only [Act.put, List.setIfInBounds_toArray, List.set_cons_zero, List.set_cons_succ]
  refine wpP_take (i := 8) (oi := ?oi642009) (v := ?v642009) ?hi642009 (by kernel_rfl) (by kernel_rfl) (by kernel_rfl) (by kernel_rfl) ?hQ642009 ?hy642009 (by assumption) ?rest642009
  case hi642009 => (simp only [List.getElem?_toArray, List.getElem?_cons_succ, List.getElem?_cons_zero]; exact rfl)
  case hQ642009 => exact fun _ _ _ h => h
  case hy642009 => (refine Or.inl ⟨by kernel_rfl, ?_⟩; intro w hSw; (try dsimp only at hSw); go_simp; try (with_reducible rfl))
  try simp only [Act.put, List.setIfInBounds_toArray, List.set_cons_zero, List.set_cons_succ]
  refine wpP_take (i := 12) (oi := ?oi642010) (v := ?v642010) ?hi642010 (by kernel_rfl) (by kernel_rfl) (by kernel_rfl) (by kernel_rfl) ?hQ642010 ?hy642010 (by assumption) ?rest642010
  case hi642010 => (simp only [List.getElem?_toArray, List.getElem?_cons_succ, List.getElem?_cons_zero]; exact rfl)
  case hQ642010 => exact fun _ _ _ h => h
  case hy642010 => (refine Or.inl ⟨by kernel_rfl, ?_⟩; intro w hSw; (try dsimp only at hSw); go_simp; try (with_reducible rfl))
  try simp only [Act.put, List.setIfInBounds_toArray, List.set_cons_zero, List.set_cons_succ]
  refine wpP_take (i := 13) (oi := ?oi642011) (v := ?v642011) ?hi642011 (by kernel_rfl) (by kernel_rfl) (by kernel_rfl) (by kernel_rfl) ?hQ642011 ?hy642011 (by assumption) ?rest642011
  case hi642011 => (simp only [List.getElem?_toArray, List.getElem?_cons_succ, List.getElem?_cons_zero]; exact rfl)
  case hQ642011 => exact fun _ _ _ h => h
  case hy642011 => (refine Or.inl ⟨by kernel_rfl, ?_⟩; intro w hSw; (try dsimp only at hSw); go_simp; try (with_reducible rfl))
  try simp only [Act.put, List.setIfInBounds_toArray, List.set_cons_zero, List.set_cons_succ]
  refine wpP_take (i := 14) (oi := ?oi642012) (v := ?v642012) ?hi642012 (by kernel_rfl) (by kernel_rfl) (by kernel_rfl) (by kernel_rfl) ?hQ642012 ?hy642012 (by assumption) ?rest642012
  case hi642012 => (simp only [List.getElem?_toArray, List.getElem?_cons_succ, List.getElem?_cons_zero]; exact rfl)
  case hQ642012 => exact fun _ _ _ h => h
  case hy642012 => (refine Or.inl ⟨by kernel_rfl, ?_⟩; intro w hSw; (try dsimp only at hSw); go_simp; try (with_reducible rfl))
  try simp only [Act.put, List.setIfInBounds_toArray, List.set_cons_zero, List.set_cons_succ]
  refine wpP_take (i := 15) (oi := ?oi642013) (v := ?v642013) ?hi642013 (by kernel_rfl) (by kernel_rfl) (by kernel_rfl) (by kernel_rfl) ?hQ642013 ?hy642013 (by assumption) ?rest642013
  case hi642013 => (simp only [List.getElem?_toArray, List.getElem?_cons_succ, List.getElem?_cons_zero]; exact rfl)
  case hQ642013 => exact fun _ _ _ h => h
  case hy642013 => (refine Or.inl ⟨by kernel_rfl, ?_⟩; intro w hSw; (try dsimp only at hSw); go_simp; try (with_reducible rfl))
  try simp only [Act.put, List.setIfInBounds_toArray, List.set_cons_zero, List.set_cons_succ]
  refine wpP_ready (rs := [9]) (by kernel_rfl) (by simp) ?_
  refine AllP.cons (o := ?o642014) ?ho642014 (fun K hK => ?_) AllP.nil
  case ho642014 => (simp only [List.getElem?_toArray, List.getElem?_cons_succ, List.getElem?_cons_zero]; exact rfl)
  go_simp
  refine hK.out _ _ ?_ (fun hHeld => ?_)
  · exact trivial
  clear hK K
  try simp only [Act.put, List.setIfInBounds_toArray, List.set_cons_zero, List.set_cons_succ]
  refine wpP_ready (rs := [10]) (by kernel_rfl) (by simp) ?_
  refine AllP.cons (o := ?o642015) ?ho642015 (fun K hK => ?_) AllP.nil
  case ho642015 => (simp only [List.getElem?_toArray, List.getElem?_cons_succ, List.getElem?_cons_zero]; exact rfl)
  go_simp
  refine hK.out _ _ ?_ (fun hHeld => ?_)
  · exact trivial
  clear hK K
  try simp only [Act.put, List.setIfInBounds_toArray, List.set_cons_zero, List.set_cons_succ]
  refine wpP_take (i := 11) (oi := ?oi642016) (v := ?v642016) ?hi642016 (by kernel_rfl) (by kernel_rfl) (by kernel_rfl) (by kernel_rfl) ?hQ642016 ?hy642016 (by assumption) ?rest642016
  case hi642016 => (simp only [List.getElem?_toArray, List.getElem?_cons_succ, List.getElem?_cons_zero]; exact rfl)
  case hQ642016 => exact fun _ _ _ h => h
  case hy642016 => (refine Or.inl ⟨by kernel_rfl, ?_⟩; intro w hSw; (try dsimp only at hSw); go_simp; try (with_reducible rfl))
  try simp only [Act.put, List.setIfInBounds_toArray, List.set_cons_zero, List.set_cons_succ]
  refine wpP_take (i := 16) (oi := ?oi642017) (v := ?v642017) ?hi642017 (by kernel_rfl) (by kernel_rfl) (by kernel_rfl) (by kernel_rfl) ?hQ642017 ?hy642017 (by assumption) ?rest642017
  case hi642017 => (simp only [List.getElem?_toArray, List.getElem?_cons_succ, List.getElem?_cons_zero]; exact rfl)
  case hQ642017 => exact fun _ _ _ h => h
  case hy642017 => (refine Or.inl ⟨by kernel_rfl, ?_⟩; intro w hSw; (try dsimp only at hSw); go_simp; try (with_reducible rfl))
  try simp only [Act.put, List.setIfInBounds_toArray, List.set_cons_zero, List.set_cons_succ]
  refine wpP_take (i := 17) (oi := ?oi642018) (v := ?v642018) ?hi642018 (by kernel_rfl) (by kernel_rfl) (by kernel_rfl) (by kernel_rfl) ?hQ642018 ?hy642018 (by assumption) ?rest642018
  case hi642018 => (simp only [List.getElem?_toArray, List.getElem?_cons_succ, List.getElem?_cons_zero]; exact rfl)
  case hQ642018 => exact fun _ _ _ h => h
  case hy642018 => (refine Or.inl ⟨by kernel_rfl, ?_⟩; intro w hSw; (try dsimp only at hSw); go_simp; try (with_reducible rfl))
  try simp only [Act.put, List.setIfInBounds_toArray, List.set_cons_zero, List.set_cons_succ]
  refine wpP_done (by kernel_rfl) ?_ _
  go_wp2
  go_ret
  exact ⟨by rw [List.append_assoc]; rfl, ((Below.refl w.heap.size w).alloc (Nat.le_refl _) _).drew⟩
end Go.Proofs.Ytacdohlhalnioaa
end

/- Contract: a block is taken (the document's). -/
section
set_option linter.unusedVariables false
set_option linter.unusedSimpArgs false
set_option maxRecDepth 20000
namespace Go.Proofs.Ytacdohlhalnioaa
open Go.RowKit
attribute [local go_sem] Oper.semAt_some

abbrev zeroP : Array Value := #[.slice none 0 0, .int .i64 0, .int .i64 0, .int .i64 0, .int .i64 0, .int .i64 0, .int .i64 0, .int .i64 0, .int .i64 0, .int .i64 0, .int .i64 0, .int .i64 0, .int .i64 0, .int .i64 0, .int .i64 0]
set_option maxHeartbeats 4000000 in
theorem rtake19_ok (A : Option Addr) (c : Nat) (v : Vol) (x : Ino) (b : Nat) (w : World) (hr : RS w A v) (hv : okV v = true) (hb : freeB v = some b) :
    Calls Try.prog 112 #[.slice A v.length c, .agg #[.int .i64 ((x.kind : Nat) : Int), .int .i64 ((x.links : Nat) : Int), .int .i64 ((x.owner : Nat) : Int), .int .i64 ((x.size : Nat) : Int), .int .i64 ((x.d0 : Nat) : Int), .int .i64 ((x.d1 : Nat) : Int), .int .i64 ((x.d2 : Nat) : Int), .int .i64 ((x.d3 : Nat) : Int), .int .i64 ((x.d4 : Nat) : Int), .int .i64 ((x.d5 : Nat) : Int), .int .i64 ((x.ind : Nat) : Int), .int .i64 ((x.ext : Nat) : Int)]] w fun e w' => ∃ g c', e = .returned (.agg #[.slice (some ⟨g, 0, none⟩) v.length c', .int .i64 ((x.kind : Nat) : Int), .int .i64 ((x.links : Nat) : Int), .int .i64 ((x.owner : Nat) : Int), .int .i64 ((x.size : Nat) : Int), .int .i64 ((x.d0 : Nat) : Int), .int .i64 ((x.d1 : Nat) : Int), .int .i64 ((x.d2 : Nat) : Int), .int .i64 ((x.d3 : Nat) : Int), .int .i64 ((x.d4 : Nat) : Int), .int .i64 ((x.d5 : Nat) : Int), .int .i64 ((x.ind : Nat) : Int), .int .i64 ((x.ext : Nat) : Int), .int .i64 b, .int .i64 0]) ∧ VS w' g (tookV v b) ∧ w.heap.size ≤ g ∧ Below w.heap.size w w' := by
  obtain ⟨f1, f2, f3, f4⟩ := freeB_some hb
  have hhi := (okV_iff.1 hv).hi
  have hlt := tookV_length v b
  have htk := Lib.hid (fun w A c hr => rtake_ok A c v b w hr hv f1 f2 f3 f4)
  rw [show (v.set 2 (turn (bk v 2) b)).set b (zs 128) = tookV v b from rfl] at htk
  have hwi := Lib.hid (fun A c w hr => rwith19_ok A c (tookV v b) b (zs 128) w v.length hlt hr (by rw [hlt]; exact f2))
  rw [tookV_same] at hwi
  have HR := Lib.hid hr
  have HT := Lib.hid hlt
  have hB0 : Below w.heap.size w ((w.alloc (.cells #[.int .i64 ((x.kind : Nat) : Int), .int .i64 ((x.links : Nat) : Int), .int .i64 ((x.owner : Nat) : Int), .int .i64 ((x.size : Nat) : Int), .int .i64 ((x.d0 : Nat) : Int), .int .i64 ((x.d1 : Nat) : Int), .int .i64 ((x.d2 : Nat) : Int), .int .i64 ((x.d3 : Nat) : Int), .int .i64 ((x.d4 : Nat) : Int), .int .i64 ((x.d5 : Nat) : Int), .int .i64 ((x.ind : Nat) : Int), .int .i64 ((x.ext : Nat) : Int)] 45)).alloc (.cells zeroP 114)) := ((Below.refl _ _).alloc (Nat.le_refl _) _).alloc (by simp) _
  have hq0 : ((w.alloc (.cells #[.int .i64 ((x.kind : Nat) : Int), .int .i64 ((x.links : Nat) : Int), .int .i64 ((x.owner : Nat) : Int), .int .i64 ((x.size : Nat) : Int), .int .i64 ((x.d0 : Nat) : Int), .int .i64 ((x.d1 : Nat) : Int), .int .i64 ((x.d2 : Nat) : Int), .int .i64 ((x.d3 : Nat) : Int), .int .i64 ((x.d4 : Nat) : Int), .int .i64 ((x.d5 : Nat) : Int), .int .i64 ((x.ind : Nat) : Int), .int .i64 ((x.ext : Nat) : Int)] 45)).alloc (.cells zeroP 114)).heap[w.heap.size]? = some (.cells #[.int .i64 ((x.kind : Nat) : Int), .int .i64 ((x.links : Nat) : Int), .int .i64 ((x.owner : Nat) : Int), .int .i64 ((x.size : Nat) : Int), .int .i64 ((x.d0 : Nat) : Int), .int .i64 ((x.d1 : Nat) : Int), .int .i64 ((x.d2 : Nat) : Int), .int .i64 ((x.d3 : Nat) : Int), .int .i64 ((x.d4 : Nat) : Int), .int .i64 ((x.d5 : Nat) : Int), .int .i64 ((x.ind : Nat) : Int), .int .i64 ((x.ext : Nat) : Int)] 45 (0, 0)) := heap_alloc_lt _ _ _ _ (blk_new w _)
  have hq1 : ((w.alloc (.cells #[.int .i64 ((x.kind : Nat) : Int), .int .i64 ((x.links : Nat) : Int), .int .i64 ((x.owner : Nat) : Int), .int .i64 ((x.size : Nat) : Int), .int .i64 ((x.d0 : Nat) : Int), .int .i64 ((x.d1 : Nat) : Int), .int .i64 ((x.d2 : Nat) : Int), .int .i64 ((x.d3 : Nat) : Int), .int .i64 ((x.d4 : Nat) : Int), .int .i64 ((x.d5 : Nat) : Int), .int .i64 ((x.ind : Nat) : Int), .int .i64 ((x.ext : Nat) : Int)] 45)).alloc (.cells zeroP 114)).heap[w.heap.size + 1]? = some (.cells zeroP 114 (0, 0)) := heap_alloc_at _ _ _ (by simp)
  have HB0 := Lib.hid hB0
  have HQ0 := Lib.hid hq0
  have HQ1 := Lib.hid hq1
  have hmk := mk_u8 128 (by omega)
  clear hr hv hb f1 f3 f4 hlt hB0 hq0 hq1
  generalize tookV v b = V at *
  go_enter Try.func112, Try.ntmps112
  go_wp2_with (go_at_call 130; refine (htk.out _ _ _ (HR.out.below HB0.out)).mono ?_; rintro e w1 ⟨g1, c1, rfl, hg1, hgs1, hb1⟩; have HB1 := Lib.hid (below_keep HB0.out (Nat.le_refl _) hb1); have HQ2 := Lib.hid (blk_keep HQ0.out hb1); have HQ3 := Lib.hid (blk_keep HQ1.out hb1); have HG := Lib.hid hg1; clear hb1 hg1)
  have hmk' : ∀ W, (Instr.makeSlice 62 (.int .i64 128) (.int .i64 128)).run Try.prog W = .ok (.slice (some ⟨W.heap.size, 0, none⟩) 128 128) (W.alloc (.cells (bvs (zs 128)) 5)) := hmk
  have kA : Below w1.heap.size w1 (w1.alloc (.cells (bvs (zs 128)) 5)).drew := ((Below.refl _ _).alloc (Nat.le_refl _) _).drew
  have hst : (convert 62 9 (.slice (some ⟨w1.heap.size, 0, none⟩) 128 128)).run Try.prog (w1.alloc (.cells (bvs (zs 128)) 5)).drew = .ok (.string (mk (zs 128))) (w1.alloc (.cells (bvs (zs 128)) 5)).drew := str_of_u8 _ w1.heap.size 0 128 128 (zs 128) (by simp) (fun j hj => by
    rw [Nat.zero_add]
    show (w1.alloc (.cells (bvs (zs 128)) 5)).cell? _ = _
    rw [cell_at (blk_new w1 _), bvs_get _ _ (by simpa using hj)])
  obtain ⟨x0, x1, x2, x3, x4, x5, x6, x7, x8, x9, x10, x11⟩ := cells12 HQ2.out
  clear hmk
  refine region_P (fun w' => w'.cell? ⟨w.heap.size, 0, none⟩ = some (.int .i64 ((x.kind : Nat) : Int)) ∧ w'.cell? ⟨w.heap.size, 1, none⟩ = some (.int .i64 ((x.links : Nat) : Int)) ∧ w'.cell? ⟨w.heap.size, 2, none⟩ = some (.int .i64 ((x.owner : Nat) : Int)) ∧ w'.cell? ⟨w.heap.size, 3, none⟩ = some (.int .i64 ((x.size : Nat) : Int)) ∧ w'.cell? ⟨w.heap.size, 4, none⟩ = some (.int .i64 ((x.d0 : Nat) : Int)) ∧ w'.cell? ⟨w.heap.size, 5, none⟩ = some (.int .i64 ((x.d1 : Nat) : Int)) ∧ w'.cell? ⟨w.heap.size, 6, none⟩ = some (.int .i64 ((x.d2 : Nat) : Int)) ∧ w'.cell? ⟨w.heap.size, 7, none⟩ = some (.int .i64 ((x.d3 : Nat) : Int)) ∧ w'.cell? ⟨w.heap.size, 8, none⟩ = some (.int .i64 ((x.d4 : Nat) : Int)) ∧ w'.cell? ⟨w.heap.size, 9, none⟩ = some (.int .i64 ((x.d5 : Nat) : Int)) ∧ w'.cell? ⟨w.heap.size, 10, none⟩ = some (.int .i64 ((x.ind : Nat) : Int)) ∧ w'.cell? ⟨w.heap.size, 11, none⟩ = some (.int .i64 ((x.ext : Nat) : Int))) [8] (by kernel_rfl) ?_ (fun hHeld => ?_)
  · exact ⟨x0, x1, x2, x3, x4, x5, x6, x7, x8, x9, x10, x11⟩
  refine wpP_take (i := 0) (oi := ?oi384001) (v := ?v384001) ?hi384001 (by kernel_rfl) (by kernel_rfl) (by kernel_rfl) (by kernel_rfl) ?hQ384001 ?hy384001 (by assumption) ?rest384001
  case hi384001 => (simp only [List.getElem?_toArray, List.getElem?_cons_succ, List.getElem?_cons_zero]; exact rfl)
  case hQ384001 => exact fun _ _ _ h => h
  case hy384001 => (refine Or.inl ⟨by kernel_rfl, ?_⟩; intro w hSw; (try dsimp only at hSw); go_simp; try (with_reducible rfl))
  try simp only [Act.put, List.setIfInBounds_toArray, List.set_cons_zero, List.set_cons_succ]
  refine wpP_take (i := 1) (oi := ?oi384002) (v := ?v384002) ?hi384002 (by kernel_rfl) (by kernel_rfl) (by kernel_rfl) (by kernel_rfl) ?hQ384002 ?hy384002 (by assumption) ?rest384002
  case hi384002 => (simp only [List.getElem?_toArray, List.getElem?_cons_succ, List.getElem?_cons_zero]; exact rfl)
  case hQ384002 => exact fun _ _ _ h => h
  case hy384002 => (refine Or.inl ⟨by kernel_rfl, ?_⟩; intro w hSw; (try dsimp only at hSw); go_simp; try (with_reducible rfl))
  try simp only [Act.put, List.setIfInBounds_toArray, List.set_cons_zero, List.set_cons_succ]
  refine wpP_take (i := 5) (oi := ?oi384003) (v := ?v384003) ?hi384003 (by kernel_rfl) (by kernel_rfl) (by kernel_rfl) (by kernel_rfl) ?hQ384003 ?hy384003 (by assumption) ?rest384003
  case hi384003 => (simp only [List.getElem?_toArray, List.getElem?_cons_succ, List.getElem?_cons_zero]; exact rfl)
  case hQ384003 => exact fun _ _ _ h => h
  case hy384003 => (refine Or.inl ⟨by kernel_rfl, ?_⟩; intro w hSw; (try dsimp only at hSw); go_simp; try (with_reducible rfl))
  try simp only [Act.put, List.setIfInBounds_toArray, List.set_cons_zero, List.set_cons_succ]
  refine wpP_take (i := 6) (oi := ?oi384004) (v := ?v384004) ?hi384004 (by kernel_rfl) (by kernel_rfl) (by kernel_rfl) (by kernel_rfl) ?hQ384004 ?hy384004 (by assumption) ?rest384004
  case hi384004 => (simp only [List.getElem?_toArray, List.getElem?_cons_succ, List.getElem?_cons_zero]; exact rfl)
  case hQ384004 => exact fun _ _ _ h => h
  case hy384004 => (refine Or.inl ⟨by kernel_rfl, ?_⟩; intro w hSw; (try dsimp only at hSw); go_simp; try (with_reducible rfl))
  try simp only [Act.put, List.setIfInBounds_toArray, List.set_cons_zero, List.set_cons_succ]
  refine wpP_ready (rs := [2]) (by kernel_rfl) (by simp) ?_
  refine AllP.cons (o := ?o384005) ?ho384005 (fun K hK => ?_) AllP.nil
  case ho384005 => (simp only [List.getElem?_toArray, List.getElem?_cons_succ, List.getElem?_cons_zero]; exact rfl)
  go_simp
  refine hK.out _ _ ?_ (fun hHeld => ?_)
  · exact ⟨cell_keep (hHeld.1) ((Below.refl _ _).alloc (Nat.le_refl _) _), cell_keep (hHeld.2.1) ((Below.refl _ _).alloc (Nat.le_refl _) _), cell_keep (hHeld.2.2.1) ((Below.refl _ _).alloc (Nat.le_refl _) _), cell_keep (hHeld.2.2.2.1) ((Below.refl _ _).alloc (Nat.le_refl _) _), cell_keep (hHeld.2.2.2.2.1) ((Below.refl _ _).alloc (Nat.le_refl _) _), cell_keep (hHeld.2.2.2.2.2.1) ((Below.refl _ _).alloc (Nat.le_refl _) _), cell_keep (hHeld.2.2.2.2.2.2.1) ((Below.refl _ _).alloc (Nat.le_refl _) _), cell_keep (hHeld.2.2.2.2.2.2.2.1) ((Below.refl _ _).alloc (Nat.le_refl _) _), cell_keep (hHeld.2.2.2.2.2.2.2.2.1) ((Below.refl _ _).alloc (Nat.le_refl _) _), cell_keep (hHeld.2.2.2.2.2.2.2.2.2.1) ((Below.refl _ _).alloc (Nat.le_refl _) _), cell_keep (hHeld.2.2.2.2.2.2.2.2.2.2.1) ((Below.refl _ _).alloc (Nat.le_refl _) _), cell_keep (hHeld.2.2.2.2.2.2.2.2.2.2.2) ((Below.refl _ _).alloc (Nat.le_refl _) _)⟩
  clear hK K
  try simp only [Act.put, List.setIfInBounds_toArray, List.set_cons_zero, List.set_cons_succ]
  refine wpP_ready (rs := [3]) (by kernel_rfl) (by simp) ?_
  refine AllP.cons (o := ?o384006) ?ho384006 (fun K hK => ?_) AllP.nil
  case ho384006 => (simp only [List.getElem?_toArray, List.getElem?_cons_succ, List.getElem?_cons_zero]; exact rfl)
  go_simp
  refine hK.out _ _ ?_ (fun hHeld => ?_)
  · exact hHeld
  clear hK K
  try simp only [Act.put, List.setIfInBounds_toArray, List.set_cons_zero, List.set_cons_succ]
  refine wpP_ready (rs := [4]) (by kernel_rfl) (by simp) ?_
  refine AllP.cons (o := ?o384007) ?ho384007 (fun K hK => ?_) AllP.nil
  case ho384007 => (simp only [List.getElem?_toArray, List.getElem?_cons_succ, List.getElem?_cons_zero]; exact rfl)
  go_simp
  go_at_call 81
  refine (hwi.out _ _ _ ((HG.out.rs (by rw [HT.out]; omega)).below kA)).mono ?_
  rintro e w4 ⟨g4, c4, rfl, hg4, hgs4, hb4⟩
  have k4 : Below w1.heap.size w1 w4 := below_more kA (by simp) hb4
  have hq := blk_keep HQ3.out k4
  obtain ⟨z0, z1, z2, z3, z4, z5, z6, z7, z8, z9, z10, z11, z12, z13, z14⟩ := cells15 hq
  obtain ⟨f0, f1, f2, f3, f4, f5, f6, f7, f8, f9, f10, f11, f12, f13, f14⟩ := frees15 hq
  refine hK.out _ _ ?_ (fun hHeld => ?_)
  · exact ⟨cell_keep (hHeld.1) (hb4), cell_keep (hHeld.2.1) (hb4), cell_keep (hHeld.2.2.1) (hb4), cell_keep (hHeld.2.2.2.1) (hb4), cell_keep (hHeld.2.2.2.2.1) (hb4), cell_keep (hHeld.2.2.2.2.2.1) (hb4), cell_keep (hHeld.2.2.2.2.2.2.1) (hb4), cell_keep (hHeld.2.2.2.2.2.2.2.1) (hb4), cell_keep (hHeld.2.2.2.2.2.2.2.2.1) (hb4), cell_keep (hHeld.2.2.2.2.2.2.2.2.2.1) (hb4), cell_keep (hHeld.2.2.2.2.2.2.2.2.2.2.1) (hb4), cell_keep (hHeld.2.2.2.2.2.2.2.2.2.2.2) (hb4)⟩
  clear hK K
  try simp only [Act.put, List.setIfInBounds_toArray, List.set_cons_zero, List.set_cons_succ]
  refine wpP_take (i := 7) (oi := ?oi384008) (v := ?v384008) ?hi384008 (by kernel_rfl) (by kernel_rfl) (by kernel_rfl) (by kernel_rfl) ?hQ384008 ?hy384008 (by assumption) ?rest384008
  case hi384008 => (simp only [List.getElem?_toArray, List.getElem?_cons_succ, List.getElem?_cons_zero]; exact rfl)
  case hQ384008 => exact fun _ _ _ h => h
  case hy384008 => (refine Or.inl ⟨by kernel_rfl, ?_⟩; intro w hSw; (try dsimp only at hSw); go_simp; try (with_reducible rfl))
  try simp only [Act.put, List.setIfInBounds_toArray, List.set_cons_zero, List.set_cons_succ]
  refine wpP_ready (rs := [8]) (by kernel_rfl) (by simp) ?_
  refine AllP.last (o := ?o384009) ?ho384009 (by kernel_rfl) (fun K hK => ?_) AllP.nil
  case ho384009 => (simp only [List.getElem?_toArray, List.getElem?_cons_succ, List.getElem?_cons_zero]; exact rfl)
  go_simp
  refine hK.out _ _ ?_
  clear hK K
  try simp only [Act.put, List.setIfInBounds_toArray, List.set_cons_zero, List.set_cons_succ]
  refine wpP_done (by kernel_rfl) ?_ _
  go_wp2
  have hbf := blk_set15 (a0 := .slice (some ⟨g4, 0, none⟩) v.length c4) (a1 := .int .i64 ((x.kind : Nat) : Int)) (a2 := .int .i64 ((x.links : Nat) : Int)) (a3 := .int .i64 ((x.owner : Nat) : Int)) (a4 := .int .i64 ((x.size : Nat) : Int)) (a5 := .int .i64 ((x.d0 : Nat) : Int)) (a6 := .int .i64 ((x.d1 : Nat) : Int)) (a7 := .int .i64 ((x.d2 : Nat) : Int)) (a8 := .int .i64 ((x.d3 : Nat) : Int)) (a9 := .int .i64 ((x.d4 : Nat) : Int)) (a10 := .int .i64 ((x.d5 : Nat) : Int)) (a11 := .int .i64 ((x.ind : Nat) : Int)) (a12 := .int .i64 ((x.ext : Nat) : Int)) (a13 := .int .i64 b) (a14 := .int .i64 0) hq
  obtain ⟨r0, r1, r2, r3, r4, r5, r6, r7, r8, r9, r10, r11, r12, r13, r14⟩ := cells15 hbf
  have s1 := HB1.out.size
  have s4 := k4.size
  have s6 := blk_lt HQ3.out
  have s5 : (w1.alloc (.cells (bvs (zs 128)) 5)).drew.heap.size = w1.heap.size + 1 := by show (w1.alloc _).heap.size = _; simp
  refine bodyPost_ret (v := .agg #[.slice (some ⟨g4, 0, none⟩) v.length c4, .int .i64 ((x.kind : Nat) : Int), .int .i64 ((x.links : Nat) : Int), .int .i64 ((x.owner : Nat) : Int), .int .i64 ((x.size : Nat) : Int), .int .i64 ((x.d0 : Nat) : Int), .int .i64 ((x.d1 : Nat) : Int), .int .i64 ((x.d2 : Nat) : Int), .int .i64 ((x.d3 : Nat) : Int), .int .i64 ((x.d4 : Nat) : Int), .int .i64 ((x.d5 : Nat) : Int), .int .i64 ((x.ind : Nat) : Int), .int .i64 ((x.ext : Nat) : Int), .int .i64 b, .int .i64 0]) (by simp [results, Try.results112, go_sem, r0, r1, r2, r3, r4, r5, r6, r7, r8, r9, r10, r11, r12, r13, r14]) rfl ⟨g4, c4, rfl, ?_, by omega, below_set15 (below_keep HB1.out (Nat.le_refl _) k4) (by omega)⟩
  obtain ⟨cur, hg, hc⟩ := hg4
  exact ⟨cur, heap_set15 hg (show g4 ≠ w.heap.size + 1 by omega), hc⟩
set_option maxHeartbeats 4000000 in
theorem rtake19_full (A : Option Addr) (c : Nat) (v : Vol) (x : Ino) (w : World) (hr : RS w A v) (hv : okV v = true) (hb : freeB v = none) :
    Calls Try.prog 112 #[.slice A v.length c, .agg #[.int .i64 ((x.kind : Nat) : Int), .int .i64 ((x.links : Nat) : Int), .int .i64 ((x.owner : Nat) : Int), .int .i64 ((x.size : Nat) : Int), .int .i64 ((x.d0 : Nat) : Int), .int .i64 ((x.d1 : Nat) : Int), .int .i64 ((x.d2 : Nat) : Int), .int .i64 ((x.d3 : Nat) : Int), .int .i64 ((x.d4 : Nat) : Int), .int .i64 ((x.d5 : Nat) : Int), .int .i64 ((x.ind : Nat) : Int), .int .i64 ((x.ext : Nat) : Int)]] w fun e w' => e = .returned (.agg #[.slice none 0 0, .int .i64 0, .int .i64 0, .int .i64 0, .int .i64 0, .int .i64 0, .int .i64 0, .int .i64 0, .int .i64 0, .int .i64 0, .int .i64 0, .int .i64 0, .int .i64 0, .int .i64 0, .int .i64 10]) ∧ Below w.heap.size w w' := by
  have htk := Lib.hid (fun w A c hr => rtake_full A c v w hr hv (freeB_none hb))
  have HR := Lib.hid hr
  have hB0 : Below w.heap.size w ((w.alloc (.cells #[.int .i64 ((x.kind : Nat) : Int), .int .i64 ((x.links : Nat) : Int), .int .i64 ((x.owner : Nat) : Int), .int .i64 ((x.size : Nat) : Int), .int .i64 ((x.d0 : Nat) : Int), .int .i64 ((x.d1 : Nat) : Int), .int .i64 ((x.d2 : Nat) : Int), .int .i64 ((x.d3 : Nat) : Int), .int .i64 ((x.d4 : Nat) : Int), .int .i64 ((x.d5 : Nat) : Int), .int .i64 ((x.ind : Nat) : Int), .int .i64 ((x.ext : Nat) : Int)] 45)).alloc (.cells zeroP 114)) := ((Below.refl _ _).alloc (Nat.le_refl _) _).alloc (by simp) _
  have hq1 : ((w.alloc (.cells #[.int .i64 ((x.kind : Nat) : Int), .int .i64 ((x.links : Nat) : Int), .int .i64 ((x.owner : Nat) : Int), .int .i64 ((x.size : Nat) : Int), .int .i64 ((x.d0 : Nat) : Int), .int .i64 ((x.d1 : Nat) : Int), .int .i64 ((x.d2 : Nat) : Int), .int .i64 ((x.d3 : Nat) : Int), .int .i64 ((x.d4 : Nat) : Int), .int .i64 ((x.d5 : Nat) : Int), .int .i64 ((x.ind : Nat) : Int), .int .i64 ((x.ext : Nat) : Int)] 45)).alloc (.cells zeroP 114)).heap[w.heap.size + 1]? = some (.cells zeroP 114 (0, 0)) := heap_alloc_at _ _ _ (by simp)
  have HB0 := Lib.hid hB0
  have HQ1 := Lib.hid hq1
  clear hr hv hb hB0 hq1
  go_enter Try.func112, Try.ntmps112
  go_wp2_with (go_at_call 130; refine (htk.out _ _ _ (HR.out.below HB0.out)).mono ?_; rintro e w1 ⟨rfl, hb1⟩; have HB1 := Lib.hid (below_keep HB0.out (Nat.le_refl _) hb1); have hq := blk_keep HQ1.out hb1; obtain ⟨z0, z1, z2, z3, z4, z5, z6, z7, z8, z9, z10, z11, z12, z13, z14⟩ := cells15 hq; obtain ⟨f0, f1, f2, f3, f4, f5, f6, f7, f8, f9, f10, f11, f12, f13, f14⟩ := frees15 hq; have HQ3 := Lib.hid hq; clear hb1 hq)
  have hbf := blk_set15 (a0 := .slice none 0 0) (a1 := .int .i64 0) (a2 := .int .i64 0) (a3 := .int .i64 0) (a4 := .int .i64 0) (a5 := .int .i64 0) (a6 := .int .i64 0) (a7 := .int .i64 0) (a8 := .int .i64 0) (a9 := .int .i64 0) (a10 := .int .i64 0) (a11 := .int .i64 0) (a12 := .int .i64 0) (a13 := .int .i64 0) (a14 := .int .i64 10) HQ3.out
  obtain ⟨r0, r1, r2, r3, r4, r5, r6, r7, r8, r9, r10, r11, r12, r13, r14⟩ := cells15 hbf
  refine bodyPost_ret (v := .agg #[.slice none 0 0, .int .i64 0, .int .i64 0, .int .i64 0, .int .i64 0, .int .i64 0, .int .i64 0, .int .i64 0, .int .i64 0, .int .i64 0, .int .i64 0, .int .i64 0, .int .i64 0, .int .i64 0, .int .i64 10]) (by simp [results, Try.results112, go_sem, r0, r1, r2, r3, r4, r5, r6, r7, r8, r9, r10, r11, r12, r13, r14]) rfl ⟨rfl, below_set15 HB1.out (by omega)⟩
end Go.Proofs.Ytacdohlhalnioaa
end

/- Contract: a block is placed (the document's). -/
section
set_option linter.unusedVariables false
set_option linter.unusedSimpArgs false
set_option maxRecDepth 20000
namespace Go.Proofs.Ytacdohlhalnioaa
open Go.RowKit
attribute [local go_sem] Oper.semAt_some

theorem rdata_at (A : Option Addr) (c : Nat) (v : Vol) (d n : Nat) (w : World) (hr : RS w A v) (hv : okV v = true) (hd : dataV v = d) (hn : v.length = n) :
    Calls Try.prog 56 #[.slice A n c] w fun e w' => e = .returned (.int .i64 ((d : Nat) : Int)) ∧ Below w.heap.size w w' := by
  subst hd hn
  exact rdata_ok A c v w hr hv
theorem goodZ_no {d L b : Nat} (h : goodN d L b = false) : goodZ d L b = 0 := by unfold goodZ; rw [if_neg (by rw [h]; simp)]
theorem goodZ_yes {d L b : Nat} (h : goodN d L b = true) : goodZ d L b = b := by unfold goodZ; rw [if_pos h]
theorem pcells_set (A : Option Addr) (L c k b B E : Nat) (x : Ino) (hk : k < 6) :
    (#[.slice A L c, .int .i64 ((x.kind : Nat) : Int), .int .i64 ((x.links : Nat) : Int), .int .i64 ((x.owner : Nat) : Int), .int .i64 ((x.size : Nat) : Int), .int .i64 ((x.d0 : Nat) : Int), .int .i64 ((x.d1 : Nat) : Int), .int .i64 ((x.d2 : Nat) : Int), .int .i64 ((x.d3 : Nat) : Int), .int .i64 ((x.d4 : Nat) : Int), .int .i64 ((x.d5 : Nat) : Int), .int .i64 ((x.ind : Nat) : Int), .int .i64 ((x.ext : Nat) : Int), .int .i64 B, .int .i64 E] : Array Value).setIfInBounds (5 + k) (.int .i64 b) = #[.slice A L c, .int .i64 (((x.setD k b).kind : Nat) : Int), .int .i64 (((x.setD k b).links : Nat) : Int), .int .i64 (((x.setD k b).owner : Nat) : Int), .int .i64 (((x.setD k b).size : Nat) : Int), .int .i64 (((x.setD k b).d0 : Nat) : Int), .int .i64 (((x.setD k b).d1 : Nat) : Int), .int .i64 (((x.setD k b).d2 : Nat) : Int), .int .i64 (((x.setD k b).d3 : Nat) : Int), .int .i64 (((x.setD k b).d4 : Nat) : Int), .int .i64 (((x.setD k b).d5 : Nat) : Int), .int .i64 (((x.setD k b).ind : Nat) : Int), .int .i64 (((x.setD k b).ext : Nat) : Int), .int .i64 B, .int .i64 E] := by
  rcases (by omega : k = 0 ∨ k = 1 ∨ k = 2 ∨ k = 3 ∨ k = 4 ∨ k = 5) with rfl | rfl | rfl | rfl | rfl | rfl <;> rfl
/-- What a placing starts from: the boxes of the inode and of the answer. -/
theorem place_start (x : Ino) (w : World) : ∀ W, (w.alloc (.cells #[.int .i64 ((x.kind : Nat) : Int), .int .i64 ((x.links : Nat) : Int), .int .i64 ((x.owner : Nat) : Int), .int .i64 ((x.size : Nat) : Int), .int .i64 ((x.d0 : Nat) : Int), .int .i64 ((x.d1 : Nat) : Int), .int .i64 ((x.d2 : Nat) : Int), .int .i64 ((x.d3 : Nat) : Int), .int .i64 ((x.d4 : Nat) : Int), .int .i64 ((x.d5 : Nat) : Int), .int .i64 ((x.ind : Nat) : Int), .int .i64 ((x.ext : Nat) : Int)] 45)).alloc (.cells zeroP 114) = W →
    Below w.heap.size w W ∧ W.heap[w.heap.size]? = some (.cells #[.int .i64 ((x.kind : Nat) : Int), .int .i64 ((x.links : Nat) : Int), .int .i64 ((x.owner : Nat) : Int), .int .i64 ((x.size : Nat) : Int), .int .i64 ((x.d0 : Nat) : Int), .int .i64 ((x.d1 : Nat) : Int), .int .i64 ((x.d2 : Nat) : Int), .int .i64 ((x.d3 : Nat) : Int), .int .i64 ((x.d4 : Nat) : Int), .int .i64 ((x.d5 : Nat) : Int), .int .i64 ((x.ind : Nat) : Int), .int .i64 ((x.ext : Nat) : Int)] 45 (0, 0)) ∧ W.heap[w.heap.size + 1]? = some (.cells zeroP 114 (0, 0)) := by
  rintro W rfl
  exact ⟨((Below.refl _ _).alloc (Nat.le_refl _) _).alloc (by simp) _, heap_alloc_lt _ _ _ _ (blk_new w _), heap_alloc_at _ _ _ (by simp)⟩
set_option maxHeartbeats 8000000 in
theorem rplace_is (A : Option Addr) (c : Nat) (v : Vol) (x : Ino) (k b : Nat) (w : World) (hr : RS w A v) (hv : okV v = true) (hk : k < 70) (h : atN (dataV v) v.length v x k = b) (h0 : b ≠ 0) :
    Calls Try.prog 80 #[.slice A v.length c, .agg #[.int .i64 ((x.kind : Nat) : Int), .int .i64 ((x.links : Nat) : Int), .int .i64 ((x.owner : Nat) : Int), .int .i64 ((x.size : Nat) : Int), .int .i64 ((x.d0 : Nat) : Int), .int .i64 ((x.d1 : Nat) : Int), .int .i64 ((x.d2 : Nat) : Int), .int .i64 ((x.d3 : Nat) : Int), .int .i64 ((x.d4 : Nat) : Int), .int .i64 ((x.d5 : Nat) : Int), .int .i64 ((x.ind : Nat) : Int), .int .i64 ((x.ext : Nat) : Int)], .int .i64 k] w fun e w' => e = .returned (.agg #[.slice A v.length c, .int .i64 ((x.kind : Nat) : Int), .int .i64 ((x.links : Nat) : Int), .int .i64 ((x.owner : Nat) : Int), .int .i64 ((x.size : Nat) : Int), .int .i64 ((x.d0 : Nat) : Int), .int .i64 ((x.d1 : Nat) : Int), .int .i64 ((x.d2 : Nat) : Int), .int .i64 ((x.d3 : Nat) : Int), .int .i64 ((x.d4 : Nat) : Int), .int .i64 ((x.d5 : Nat) : Int), .int .i64 ((x.ind : Nat) : Int), .int .i64 ((x.ext : Nat) : Int), .int .i64 b, .int .i64 0]) ∧ Below w.heap.size w w' := by
  obtain ⟨hB0, hq0, hq1⟩ := place_start x w _ rfl
  have HB0 := Lib.hid hB0
  have HQ0 := Lib.hid hq0
  have HQ1 := Lib.hid hq1
  obtain ⟨x0, x1, x2, x3, x4, x5, x6, x7, x8, x9, x10, x11⟩ := cells12 hq0
  have HR := Lib.hid hr
  have H := okV_iff.1 hv
  have hd0 : 0 < dataV v := by rw [dataV]; omega
  have hhi := H.hi
  have hdat := Lib.hid (fun w hr => rdata_ok A c v w hr hv)
  have hat := Lib.hid (fun w hr => rat_ok A c (dataV v) v.length v x k w hr rfl hk hd0 H.size)
  rw [h] at hat
  have hbi : (0 : Int) < (b : Int) := by omega
  clear hr hv h H hB0 hq0 hq1
  generalize dataV v = d at *
  go_enter Try.func80, Try.ntmps80
  go_wp2_with (first
    | (go_at_call 56; refine (hdat.out _ (HR.out.below HB0.out)).mono ?_; rintro e w1 ⟨rfl, hb1⟩; have HB1 := Lib.hid (below_keep HB0.out (Nat.le_refl _) hb1); have hq0 := blk_keep HQ0.out hb1; obtain ⟨x0, x1, x2, x3, x4, x5, x6, x7, x8, x9, x10, x11⟩ := cells12 hq0; have HP0 := Lib.hid hq0; have HP1 := Lib.hid (blk_keep HQ1.out hb1); clear hb1 hq0)
    | (go_at_call 59; refine (hat.out _ (HR.out.below HB1.out)).mono ?_; rintro e w2 ⟨rfl, hb2⟩; have HB2 := Lib.hid (below_keep HB1.out (Nat.le_refl _) hb2); have hq0 := blk_keep HP0.out hb2; have hq1 := blk_keep HP1.out hb2; obtain ⟨x0, x1, x2, x3, x4, x5, x6, x7, x8, x9, x10, x11⟩ := cells12 hq0; obtain ⟨z0, z1, z2, z3, z4, z5, z6, z7, z8, z9, z10, z11, z12, z13, z14⟩ := cells15 hq1; obtain ⟨f0, f1, f2, f3, f4, f5, f6, f7, f8, f9, f10, f11, f12, f13, f14⟩ := frees15 hq1; have HU0 := Lib.hid hq0; have HU1 := Lib.hid hq1; clear hb2 hq0 hq1))
  have hbf := blk_set15 (a0 := .slice A v.length c) (a1 := .int .i64 ((x.kind : Nat) : Int)) (a2 := .int .i64 ((x.links : Nat) : Int)) (a3 := .int .i64 ((x.owner : Nat) : Int)) (a4 := .int .i64 ((x.size : Nat) : Int)) (a5 := .int .i64 ((x.d0 : Nat) : Int)) (a6 := .int .i64 ((x.d1 : Nat) : Int)) (a7 := .int .i64 ((x.d2 : Nat) : Int)) (a8 := .int .i64 ((x.d3 : Nat) : Int)) (a9 := .int .i64 ((x.d4 : Nat) : Int)) (a10 := .int .i64 ((x.d5 : Nat) : Int)) (a11 := .int .i64 ((x.ind : Nat) : Int)) (a12 := .int .i64 ((x.ext : Nat) : Int)) (a13 := .int .i64 b) (a14 := .int .i64 0) HU1.out
  obtain ⟨r0, r1, r2, r3, r4, r5, r6, r7, r8, r9, r10, r11, r12, r13, r14⟩ := cells15 hbf
  refine bodyPost_ret (v := .agg #[.slice A v.length c, .int .i64 ((x.kind : Nat) : Int), .int .i64 ((x.links : Nat) : Int), .int .i64 ((x.owner : Nat) : Int), .int .i64 ((x.size : Nat) : Int), .int .i64 ((x.d0 : Nat) : Int), .int .i64 ((x.d1 : Nat) : Int), .int .i64 ((x.d2 : Nat) : Int), .int .i64 ((x.d3 : Nat) : Int), .int .i64 ((x.d4 : Nat) : Int), .int .i64 ((x.d5 : Nat) : Int), .int .i64 ((x.ind : Nat) : Int), .int .i64 ((x.ext : Nat) : Int), .int .i64 b, .int .i64 0]) (by simp [results, Try.results80, go_sem, r0, r1, r2, r3, r4, r5, r6, r7, r8, r9, r10, r11, r12, r13, r14]) rfl ?_
  exact ⟨rfl, below_set15 HB2.out (by omega)⟩
set_option maxHeartbeats 8000000 in
theorem rplace_near (A : Option Addr) (c : Nat) (v : Vol) (x : Ino) (k b : Nat) (w : World) (hr : RS w A v) (hv : okV v = true) (hk6 : k < 6) (h : atN (dataV v) v.length v x k = 0) (hb : freeB v = some b) :
    Calls Try.prog 80 #[.slice A v.length c, .agg #[.int .i64 ((x.kind : Nat) : Int), .int .i64 ((x.links : Nat) : Int), .int .i64 ((x.owner : Nat) : Int), .int .i64 ((x.size : Nat) : Int), .int .i64 ((x.d0 : Nat) : Int), .int .i64 ((x.d1 : Nat) : Int), .int .i64 ((x.d2 : Nat) : Int), .int .i64 ((x.d3 : Nat) : Int), .int .i64 ((x.d4 : Nat) : Int), .int .i64 ((x.d5 : Nat) : Int), .int .i64 ((x.ind : Nat) : Int), .int .i64 ((x.ext : Nat) : Int)], .int .i64 k] w fun e w' => ∃ g c', e = .returned (.agg #[.slice (some ⟨g, 0, none⟩) v.length c', .int .i64 (((x.setD k b).kind : Nat) : Int), .int .i64 (((x.setD k b).links : Nat) : Int), .int .i64 (((x.setD k b).owner : Nat) : Int), .int .i64 (((x.setD k b).size : Nat) : Int), .int .i64 (((x.setD k b).d0 : Nat) : Int), .int .i64 (((x.setD k b).d1 : Nat) : Int), .int .i64 (((x.setD k b).d2 : Nat) : Int), .int .i64 (((x.setD k b).d3 : Nat) : Int), .int .i64 (((x.setD k b).d4 : Nat) : Int), .int .i64 (((x.setD k b).d5 : Nat) : Int), .int .i64 (((x.setD k b).ind : Nat) : Int), .int .i64 (((x.setD k b).ext : Nat) : Int), .int .i64 b, .int .i64 0]) ∧ VS w' g (tookV v b) ∧ w.heap.size ≤ g ∧ Below w.heap.size w w' := by
  have hk : k < 70 := by omega
  obtain ⟨hB0, hq0, hq1⟩ := place_start x w _ rfl
  have HB0 := Lib.hid hB0
  have HQ0 := Lib.hid hq0
  have HQ1 := Lib.hid hq1
  obtain ⟨x0, x1, x2, x3, x4, x5, x6, x7, x8, x9, x10, x11⟩ := cells12 hq0
  have HR := Lib.hid hr
  have H := okV_iff.1 hv
  have hd0 : 0 < dataV v := by rw [dataV]; omega
  have hhi := H.hi
  have hdat := Lib.hid (fun w hr => rdata_ok A c v w hr hv)
  have hat := Lib.hid (fun w hr => rat_ok A c (dataV v) v.length v x k w hr rfl hk hd0 H.size)
  rw [h] at hat
  have htk := Lib.hid (fun w hr => rtake19_ok A c v x b w hr hv hb)
  have hki : (k : Int) < 6 := by omega
  clear hr hv h H hB0 hq0 hq1 hb
  generalize tookV v b = V at *
  generalize dataV v = d at *
  go_enter Try.func80, Try.ntmps80
  go_upto_region 7 with (first
    | (go_at_call 56; refine (hdat.out _ (HR.out.below HB0.out)).mono ?_; rintro e w1 ⟨rfl, hb1⟩; have HB1 := Lib.hid (below_keep HB0.out (Nat.le_refl _) hb1); have hq0 := blk_keep HQ0.out hb1; obtain ⟨x0, x1, x2, x3, x4, x5, x6, x7, x8, x9, x10, x11⟩ := cells12 hq0; have HP0 := Lib.hid hq0; have HP1 := Lib.hid (blk_keep HQ1.out hb1); clear hb1 hq0)
    | (go_at_call 59; refine (hat.out _ (HR.out.below HB1.out)).mono ?_; rintro e w2 ⟨rfl, hb2⟩; have HB2 := Lib.hid (below_keep HB1.out (Nat.le_refl _) hb2); have hq0 := blk_keep HP0.out hb2; have hq1 := blk_keep HP1.out hb2; obtain ⟨x0, x1, x2, x3, x4, x5, x6, x7, x8, x9, x10, x11⟩ := cells12 hq0; obtain ⟨z0, z1, z2, z3, z4, z5, z6, z7, z8, z9, z10, z11, z12, z13, z14⟩ := cells15 hq1; obtain ⟨f0, f1, f2, f3, f4, f5, f6, f7, f8, f9, f10, f11, f12, f13, f14⟩ := frees15 hq1; have HU0 := Lib.hid hq0; have HU1 := Lib.hid hq1; clear hb2 hq0 hq1)
    | (go_at_call 112; refine (htk.out _ (HR.out.below HB2.out)).mono ?_; rintro e w3 ⟨g3, c3, rfl, hg3, hgs3, hb3⟩; have HB3 := Lib.hid hb3; have HG3 := Lib.hid hg3; clear hb3 hg3))
  have s3 := HB3.out.size
  have s2 := HB2.out.size
  have su := blk_lt HU1.out
  have hb4 := HB3.out.alloc HB3.out.size (.cells #[.slice (some ⟨g3, 0, none⟩) v.length c3, .int .i64 ((x.kind : Nat) : Int), .int .i64 ((x.links : Nat) : Int), .int .i64 ((x.owner : Nat) : Int), .int .i64 ((x.size : Nat) : Int), .int .i64 ((x.d0 : Nat) : Int), .int .i64 ((x.d1 : Nat) : Int), .int .i64 ((x.d2 : Nat) : Int), .int .i64 ((x.d3 : Nat) : Int), .int .i64 ((x.d4 : Nat) : Int), .int .i64 ((x.d5 : Nat) : Int), .int .i64 ((x.ind : Nat) : Int), .int .i64 ((x.ext : Nat) : Int), .int .i64 b, .int .i64 0] 114)
  have hq9 := blk_new w3 (.cells #[.slice (some ⟨g3, 0, none⟩) v.length c3, .int .i64 ((x.kind : Nat) : Int), .int .i64 ((x.links : Nat) : Int), .int .i64 ((x.owner : Nat) : Int), .int .i64 ((x.size : Nat) : Int), .int .i64 ((x.d0 : Nat) : Int), .int .i64 ((x.d1 : Nat) : Int), .int .i64 ((x.d2 : Nat) : Int), .int .i64 ((x.d3 : Nat) : Int), .int .i64 ((x.d4 : Nat) : Int), .int .i64 ((x.d5 : Nat) : Int), .int .i64 ((x.ind : Nat) : Int), .int .i64 ((x.ext : Nat) : Int), .int .i64 b, .int .i64 0] 114)
  have hg4 : VS (w3.alloc (.cells #[.slice (some ⟨g3, 0, none⟩) v.length c3, .int .i64 ((x.kind : Nat) : Int), .int .i64 ((x.links : Nat) : Int), .int .i64 ((x.owner : Nat) : Int), .int .i64 ((x.size : Nat) : Int), .int .i64 ((x.d0 : Nat) : Int), .int .i64 ((x.d1 : Nat) : Int), .int .i64 ((x.d2 : Nat) : Int), .int .i64 ((x.d3 : Nat) : Int), .int .i64 ((x.d4 : Nat) : Int), .int .i64 ((x.d5 : Nat) : Int), .int .i64 ((x.ind : Nat) : Int), .int .i64 ((x.ext : Nat) : Int), .int .i64 b, .int .i64 0] 114)) g3 V := HG3.out.keep ((Below.refl _ _).alloc (Nat.le_refl _) _)
  have sg := HG3.out.lt
  generalize w3.alloc (.cells #[.slice (some ⟨g3, 0, none⟩) v.length c3, .int .i64 ((x.kind : Nat) : Int), .int .i64 ((x.links : Nat) : Int), .int .i64 ((x.owner : Nat) : Int), .int .i64 ((x.size : Nat) : Int), .int .i64 ((x.d0 : Nat) : Int), .int .i64 ((x.d1 : Nat) : Int), .int .i64 ((x.d2 : Nat) : Int), .int .i64 ((x.d3 : Nat) : Int), .int .i64 ((x.d4 : Nat) : Int), .int .i64 ((x.d5 : Nat) : Int), .int .i64 ((x.ind : Nat) : Int), .int .i64 ((x.ext : Nat) : Int), .int .i64 b, .int .i64 0] 114) = W4 at *
  generalize w3.heap.size = q9 at *
  obtain ⟨z0, z1, z2, z3, z4, z5, z6, z7, z8, z9, z10, z11, z12, z13, z14⟩ := cells15 hq9
  have hfk := free_of hq9 (5 + k)
  have hck : W4.cell? ⟨q9, 5 + k, none⟩ = some (.int .i64 ((x.list.getD (4 + k) 0 : Nat) : Int)) := by
    rw [cell_at hq9]
    rcases (by omega : k = 0 ∨ k = 1 ∨ k = 2 ∨ k = 3 ∨ k = 4 ∨ k = 5) with rfl | rfl | rfl | rfl | rfl | rfl <;> rfl
  have hs9 := blk_set hq9 (5 + k) (.int .i64 b)
  rw [show (#[.slice (some ⟨g3, 0, none⟩) v.length c3, .int .i64 ((x.kind : Nat) : Int), .int .i64 ((x.links : Nat) : Int), .int .i64 ((x.owner : Nat) : Int), .int .i64 ((x.size : Nat) : Int), .int .i64 ((x.d0 : Nat) : Int), .int .i64 ((x.d1 : Nat) : Int), .int .i64 ((x.d2 : Nat) : Int), .int .i64 ((x.d3 : Nat) : Int), .int .i64 ((x.d4 : Nat) : Int), .int .i64 ((x.d5 : Nat) : Int), .int .i64 ((x.ind : Nat) : Int), .int .i64 ((x.ext : Nat) : Int), .int .i64 b, .int .i64 0] : Array Value).setIfInBounds (5 + k) (.int .i64 b) = _ from pcells_set (some ⟨g3, 0, none⟩) v.length c3 k b b 0 x hk6] at hs9
  obtain ⟨y0, y1, y2, y3, y4, y5, y6, y7, y8, y9, y10, y11, y12, y13, y14⟩ := cells15 hs9
  have hu1 := blk_keep HU1.out hb4
  have hu2 := blk_set_other hu1 (show w.heap.size + 1 ≠ q9 by omega) (5 + k) (.int .i64 b)
  obtain ⟨fr0, fr1, fr2, fr3, fr4, fr5, fr6, fr7, fr8, fr9, fr10, fr11, fr12, fr13, fr14⟩ := frees15 hu2
  obtain ⟨u0, u1, u2, u3, u4, u5, u6, u7, u8, u9, u10, u11, u12, u13, u14⟩ := cells15 hu2
  have HU2 := Lib.hid hu2
  have HB5 := Lib.hid (below_set (below_keep HB2.out (Nat.le_refl _) hb4) (show w.heap.size ≤ q9 by omega) (i := 5 + k) (u := .int .i64 b))
  have HG5 := Lib.hid (hg4.other (show g3 ≠ q9 by omega) (i := 5 + k) (u := .int .i64 b))
  generalize x.list.getD (4 + k) 0 = x4 at *
  clear hq9 hs9 hu1 hu2 hb4 hg4
  go_wp2
  have hbf := blk_set15 (a0 := .slice (some ⟨g3, 0, none⟩) v.length c3) (a1 := .int .i64 (((x.setD k b).kind : Nat) : Int)) (a2 := .int .i64 (((x.setD k b).links : Nat) : Int)) (a3 := .int .i64 (((x.setD k b).owner : Nat) : Int)) (a4 := .int .i64 (((x.setD k b).size : Nat) : Int)) (a5 := .int .i64 (((x.setD k b).d0 : Nat) : Int)) (a6 := .int .i64 (((x.setD k b).d1 : Nat) : Int)) (a7 := .int .i64 (((x.setD k b).d2 : Nat) : Int)) (a8 := .int .i64 (((x.setD k b).d3 : Nat) : Int)) (a9 := .int .i64 (((x.setD k b).d4 : Nat) : Int)) (a10 := .int .i64 (((x.setD k b).d5 : Nat) : Int)) (a11 := .int .i64 (((x.setD k b).ind : Nat) : Int)) (a12 := .int .i64 (((x.setD k b).ext : Nat) : Int)) (a13 := .int .i64 b) (a14 := .int .i64 0) HU2.out
  obtain ⟨r0, r1, r2, r3, r4, r5, r6, r7, r8, r9, r10, r11, r12, r13, r14⟩ := cells15 hbf
  refine bodyPost_ret (v := .agg #[.slice (some ⟨g3, 0, none⟩) v.length c3, .int .i64 ((((x.setD k b)).kind : Nat) : Int), .int .i64 ((((x.setD k b)).links : Nat) : Int), .int .i64 ((((x.setD k b)).owner : Nat) : Int), .int .i64 ((((x.setD k b)).size : Nat) : Int), .int .i64 ((((x.setD k b)).d0 : Nat) : Int), .int .i64 ((((x.setD k b)).d1 : Nat) : Int), .int .i64 ((((x.setD k b)).d2 : Nat) : Int), .int .i64 ((((x.setD k b)).d3 : Nat) : Int), .int .i64 ((((x.setD k b)).d4 : Nat) : Int), .int .i64 ((((x.setD k b)).d5 : Nat) : Int), .int .i64 ((((x.setD k b)).ind : Nat) : Int), .int .i64 ((((x.setD k b)).ext : Nat) : Int), .int .i64 b, .int .i64 0]) (by simp [results, Try.results80, go_sem, r0, r1, r2, r3, r4, r5, r6, r7, r8, r9, r10, r11, r12, r13, r14]) rfl ?_
  refine ⟨g3, c3, rfl, ?_, by omega, below_set15 HB5.out (by omega)⟩
  obtain ⟨cur, hg, hc⟩ := HG5.out
  exact ⟨cur, heap_set15 hg (show g3 ≠ w.heap.size + 1 by omega), hc⟩
end Go.Proofs.Ytacdohlhalnioaa
end

/- Contract: a far block is placed (the document's). -/
section
set_option linter.unusedVariables false
set_option linter.unusedSimpArgs false
set_option maxRecDepth 20000
namespace Go.Proofs.Ytacdohlhalnioaa
open Go.RowKit
attribute [local go_sem] Oper.semAt_some

set_option maxHeartbeats 16000000 in
theorem rplace_far (A : Option Addr) (c : Nat) (v : Vol) (x : Ino) (k b : Nat) (w : World) (hr : RS w A v) (hv : okV v = true) (hk6 : 6 ≤ k) (hk : k < 70) (h : atN (dataV v) v.length v x k = 0) (hg : goodN (dataV v) v.length x.ind = true) (hb : freeB v = some b) :
    Calls Try.prog 80 #[.slice A v.length c, .agg #[.int .i64 ((x.kind : Nat) : Int), .int .i64 ((x.links : Nat) : Int), .int .i64 ((x.owner : Nat) : Int), .int .i64 ((x.size : Nat) : Int), .int .i64 ((x.d0 : Nat) : Int), .int .i64 ((x.d1 : Nat) : Int), .int .i64 ((x.d2 : Nat) : Int), .int .i64 ((x.d3 : Nat) : Int), .int .i64 ((x.d4 : Nat) : Int), .int .i64 ((x.d5 : Nat) : Int), .int .i64 ((x.ind : Nat) : Int), .int .i64 ((x.ext : Nat) : Int)], .int .i64 k] w fun e w' => ∃ g c', e = .returned (.agg #[.slice (some ⟨g, 0, none⟩) v.length c', .int .i64 ((x.kind : Nat) : Int), .int .i64 ((x.links : Nat) : Int), .int .i64 ((x.owner : Nat) : Int), .int .i64 ((x.size : Nat) : Int), .int .i64 ((x.d0 : Nat) : Int), .int .i64 ((x.d1 : Nat) : Int), .int .i64 ((x.d2 : Nat) : Int), .int .i64 ((x.d3 : Nat) : Int), .int .i64 ((x.d4 : Nat) : Int), .int .i64 ((x.d5 : Nat) : Int), .int .i64 ((x.ind : Nat) : Int), .int .i64 ((x.ext : Nat) : Int), .int .i64 b, .int .i64 0]) ∧ VS w' g ((tookV v b).set x.ind (put2 (bk (tookV v b) x.ind) (2 * (k - 6)) b)) ∧ w.heap.size ≤ g ∧ Below w.heap.size w w' := by
  obtain ⟨hB0, hq0, hq1⟩ := place_start x w _ rfl
  have HB0 := Lib.hid hB0
  have HQ0 := Lib.hid hq0
  have HQ1 := Lib.hid hq1
  obtain ⟨x0, x1, x2, x3, x4, x5, x6, x7, x8, x9, x10, x11⟩ := cells12 hq0
  have HR := Lib.hid hr
  have H := okV_iff.1 hv
  have hd0 : 0 < dataV v := by rw [dataV]; omega
  have hhi := H.hi
  have hdat := Lib.hid (fun w hr => rdata_ok A c v w hr hv)
  have hat := Lib.hid (fun w hr => rat_ok A c (dataV v) v.length v x k w hr rfl hk hd0 H.size)
  rw [h] at hat
  obtain ⟨f1, f2, _⟩ := freeB_some hb
  have hkt := kept_tookV hv f1 f2
  have htk := Lib.hid (fun w hr => rtake19_ok A c v x b w hr hv hb)
  have hki : ¬ ((k : Int) < 6) := by omega
  have hgl := (goodN_iff.1 hg).2
  have hgd := (goodN_iff.1 hg).1
  have hgz := goodZ_yes hg
  have HGZ := Lib.hid hgz
  have hin : ((x.ind : Int) == 0) = false := by rw [beq_eq_false_iff_ne]; omega
  have hi1 : (x.ind : Int) < (v.length : Nat) := by omega
  have hsb := (okV_iff.1 hkt.ok).size x.ind (by rw [hkt.len]; exact hgl)
  obtain ⟨j, hj⟩ : ∃ j, k - 6 = j := ⟨_, rfl⟩
  have hj1 : (k : Int) - 6 = (j : Int) := by omega
  have hwj : IntKind.i64.wrap (j : Int) = (j : Int) := by simp [IntKind.wrap, IntKind.bits, IntKind.signed]; omega
  rw [hj]
  obtain ⟨p, hp⟩ : ∃ p, 2 * j = p := ⟨_, rfl⟩
  have hp1 : (2 : Int) * (j : Int) = (p : Int) := by omega
  have hwp : IntKind.i64.wrap (p : Int) = (p : Int) := by simp [IntKind.wrap, IntKind.bits, IntKind.signed]; omega
  rw [hp]
  have HT := Lib.hid hkt.len
  have hb223 : b < 65536 := by omega
  have hwi := fun A' c' (s : Blk) w hr => rwith19_ok A' c' (tookV v b) x.ind s w v.length hkt.len hr (by rw [hkt.len]; exact hgl)
  clear hr hv h H hB0 hq0 hq1 hb hkt hg hgz f1
  generalize tookV v b = V at *
  obtain ⟨sb, hsb'⟩ : ∃ sb, bk V x.ind = sb := ⟨_, rfl⟩
  rw [hsb'] at hsb ⊢
  have HSB := Lib.hid hsb'
  have HWI := Lib.hid (fun A' c' w hr => hwi A' c' (put2 sb p b) w hr)
  clear hsb' hwi
  generalize dataV v = d at *
  go_enter Try.func80, Try.ntmps80
  go_upto_region 18 with (first
    | (go_at_call 56; refine (hdat.out _ (HR.out.below HB0.out)).mono ?_; rintro e w1 ⟨rfl, hb1⟩; have HB1 := Lib.hid (below_keep HB0.out (Nat.le_refl _) hb1); have hq0 := blk_keep HQ0.out hb1; obtain ⟨x0, x1, x2, x3, x4, x5, x6, x7, x8, x9, x10, x11⟩ := cells12 hq0; have HP0 := Lib.hid hq0; have HP1 := Lib.hid (blk_keep HQ1.out hb1); clear hb1 hq0)
    | (go_at_call 59; refine (hat.out _ (HR.out.below HB1.out)).mono ?_; rintro e w2 ⟨rfl, hb2⟩; have HB2 := Lib.hid (below_keep HB1.out (Nat.le_refl _) hb2); have hq0 := blk_keep HP0.out hb2; have hq1 := blk_keep HP1.out hb2; obtain ⟨x0, x1, x2, x3, x4, x5, x6, x7, x8, x9, x10, x11⟩ := cells12 hq0; obtain ⟨z0, z1, z2, z3, z4, z5, z6, z7, z8, z9, z10, z11, z12, z13, z14⟩ := cells15 hq1; obtain ⟨f0, f1, f2, f3, f4, f5, f6, f7, f8, f9, f10, f11, f12, f13, f14⟩ := frees15 hq1; have HU0 := Lib.hid hq0; have HU1 := Lib.hid hq1; clear hb2 hq0 hq1)
    | (go_at_call 64; refine (rgood_ok A c v.length d x.ind _ (by omega)).mono ?_; rw [HGZ.out]; rintro e w8 ⟨rfl, rfl⟩)
    | (go_at_call 112; refine (htk.out _ (HR.out.below HB2.out)).mono ?_; rintro e w3 ⟨g3, c3, rfl, hg3, hgs3, hb3⟩; have s2 := HB2.out.size; have HB3 := Lib.hid hb3; have HG3 := Lib.hid hg3; obtain ⟨z0, z1, z2, z3, z4, z5, z6, z7, z8, z9, z10, z11, z12, z13, z14⟩ := cells15 (blk_new w3 (.cells #[.slice (some ⟨g3, 0, none⟩) v.length c3, .int .i64 ((x.kind : Nat) : Int), .int .i64 ((x.links : Nat) : Int), .int .i64 ((x.owner : Nat) : Int), .int .i64 ((x.size : Nat) : Int), .int .i64 ((x.d0 : Nat) : Int), .int .i64 ((x.d1 : Nat) : Int), .int .i64 ((x.d2 : Nat) : Int), .int .i64 ((x.d3 : Nat) : Int), .int .i64 ((x.d4 : Nat) : Int), .int .i64 ((x.d5 : Nat) : Int), .int .i64 ((x.ind : Nat) : Int), .int .i64 ((x.ext : Nat) : Int), .int .i64 b, .int .i64 0] 114)); clear hb3 hg3))
  clear z0 z1 z2 z3 z4 z5 z6 z7 z8 z9 z10 z11 z12 z13 z14
  have s3 := HB3.out.size
  have su := blk_lt HU1.out
  have hb4 := HB3.out.alloc HB3.out.size (.cells #[.slice (some ⟨g3, 0, none⟩) v.length c3, .int .i64 ((x.kind : Nat) : Int), .int .i64 ((x.links : Nat) : Int), .int .i64 ((x.owner : Nat) : Int), .int .i64 ((x.size : Nat) : Int), .int .i64 ((x.d0 : Nat) : Int), .int .i64 ((x.d1 : Nat) : Int), .int .i64 ((x.d2 : Nat) : Int), .int .i64 ((x.d3 : Nat) : Int), .int .i64 ((x.d4 : Nat) : Int), .int .i64 ((x.d5 : Nat) : Int), .int .i64 ((x.ind : Nat) : Int), .int .i64 ((x.ext : Nat) : Int), .int .i64 b, .int .i64 0] 114)
  have hq9 := blk_new w3 (.cells #[.slice (some ⟨g3, 0, none⟩) v.length c3, .int .i64 ((x.kind : Nat) : Int), .int .i64 ((x.links : Nat) : Int), .int .i64 ((x.owner : Nat) : Int), .int .i64 ((x.size : Nat) : Int), .int .i64 ((x.d0 : Nat) : Int), .int .i64 ((x.d1 : Nat) : Int), .int .i64 ((x.d2 : Nat) : Int), .int .i64 ((x.d3 : Nat) : Int), .int .i64 ((x.d4 : Nat) : Int), .int .i64 ((x.d5 : Nat) : Int), .int .i64 ((x.ind : Nat) : Int), .int .i64 ((x.ext : Nat) : Int), .int .i64 b, .int .i64 0] 114)
  have hg4 : VS (w3.alloc (.cells #[.slice (some ⟨g3, 0, none⟩) v.length c3, .int .i64 ((x.kind : Nat) : Int), .int .i64 ((x.links : Nat) : Int), .int .i64 ((x.owner : Nat) : Int), .int .i64 ((x.size : Nat) : Int), .int .i64 ((x.d0 : Nat) : Int), .int .i64 ((x.d1 : Nat) : Int), .int .i64 ((x.d2 : Nat) : Int), .int .i64 ((x.d3 : Nat) : Int), .int .i64 ((x.d4 : Nat) : Int), .int .i64 ((x.d5 : Nat) : Int), .int .i64 ((x.ind : Nat) : Int), .int .i64 ((x.ext : Nat) : Int), .int .i64 b, .int .i64 0] 114)) g3 V := HG3.out.keep ((Below.refl _ _).alloc (Nat.le_refl _) _)
  have sg := HG3.out.lt
  generalize w3.alloc (.cells #[.slice (some ⟨g3, 0, none⟩) v.length c3, .int .i64 ((x.kind : Nat) : Int), .int .i64 ((x.links : Nat) : Int), .int .i64 ((x.owner : Nat) : Int), .int .i64 ((x.size : Nat) : Int), .int .i64 ((x.d0 : Nat) : Int), .int .i64 ((x.d1 : Nat) : Int), .int .i64 ((x.d2 : Nat) : Int), .int .i64 ((x.d3 : Nat) : Int), .int .i64 ((x.d4 : Nat) : Int), .int .i64 ((x.d5 : Nat) : Int), .int .i64 ((x.ind : Nat) : Int), .int .i64 ((x.ext : Nat) : Int), .int .i64 b, .int .i64 0] 114) = W4 at *
  generalize w3.heap.size = q9 at *
  obtain ⟨j0, j1, j2, j3, j4, j5, j6, j7, j8, j9, j10, j11, j12, j13, j14⟩ := cells15 hq9
  have i0 := j0
  have i2 := j13
  have hx4 := blk_keep HU0.out hb4
  obtain ⟨x0, x1, x2, x3, x4, x5, x6, x7, x8, x9, x10, x11⟩ := cells12 hx4
  have i1 := x10
  have i3 := hg4.cell x.ind (by rw [HT.out]; exact hgl)
  rw [HSB.out] at i3
  have HQ9 := Lib.hid hq9
  have HU4 := Lib.hid (blk_keep HU1.out hb4)
  have hne1 : w.heap.size + 1 ≠ q9 := by omega
  have HRV := Lib.hid (hg4.rs (by rw [HT.out]; omega))
  have HB4 := Lib.hid (below_keep HB2.out (Nat.le_refl _) hb4)
  have s4 := hb4.size
  clear hq9 hb4 hg4 hx4 j0 j1 j2 j3 j4 j5 j6 j7 j8 j9 j10 j11 j12 j13 j14
  refine region_P (fun w' => w'.cell? ⟨q9, 0, none⟩ = some (.slice (some ⟨g3, 0, none⟩) v.length c3) ∧ w'.cell? ⟨w.heap.size, 10, none⟩ = some (.int .i64 x.ind) ∧ w'.cell? ⟨q9, 13, none⟩ = some (.int .i64 b) ∧ w'.cell? ⟨g3, x.ind, none⟩ = some (.string (mk sb))) [18] (by kernel_rfl) ?_ (fun hHeld => ?_)
  · exact ⟨i0, i1, i2, i3⟩
  refine wpP_take (i := 0) (oi := ?oi594001) (v := ?v594001) ?hi594001 (by kernel_rfl) (by kernel_rfl) (by kernel_rfl) (by kernel_rfl) ?hQ594001 ?hy594001 (by assumption) ?rest594001
  case hi594001 => (simp only [List.getElem?_toArray, List.getElem?_cons_succ, List.getElem?_cons_zero]; exact rfl)
  case hQ594001 => exact fun _ _ _ h => h
  case hy594001 => (refine Or.inl ⟨by kernel_rfl, ?_⟩; intro w hSw; (try dsimp only at hSw); go_simp; try (with_reducible rfl))
  try simp only [Act.put, List.setIfInBounds_toArray, List.set_cons_zero, List.set_cons_succ]
  refine wpP_take (i := 1) (oi := ?oi594002) (v := ?v594002) ?hi594002 (by kernel_rfl) (by kernel_rfl) (by kernel_rfl) (by kernel_rfl) ?hQ594002 ?hy594002 (by assumption) ?rest594002
  case hi594002 => (simp only [List.getElem?_toArray, List.getElem?_cons_succ, List.getElem?_cons_zero]; exact rfl)
  case hQ594002 => exact fun _ _ _ h => h
  case hy594002 => (refine Or.inl ⟨by kernel_rfl, ?_⟩; intro w hSw; (try dsimp only at hSw); go_simp; try (with_reducible rfl))
  try simp only [Act.put, List.setIfInBounds_toArray, List.set_cons_zero, List.set_cons_succ]
  refine wpP_take (i := 2) (oi := ?oi594003) (v := ?v594003) ?hi594003 (by kernel_rfl) (by kernel_rfl) (by kernel_rfl) (by kernel_rfl) ?hQ594003 ?hy594003 (by assumption) ?rest594003
  case hi594003 => (simp only [List.getElem?_toArray, List.getElem?_cons_succ, List.getElem?_cons_zero]; exact rfl)
  case hQ594003 => exact fun _ _ _ h => h
  case hy594003 => (refine Or.inl ⟨by kernel_rfl, ?_⟩; intro w hSw; (try dsimp only at hSw); go_simp; try (with_reducible rfl))
  try simp only [Act.put, List.setIfInBounds_toArray, List.set_cons_zero, List.set_cons_succ]
  refine wpP_take (i := 3) (oi := ?oi594004) (v := ?v594004) ?hi594004 (by kernel_rfl) (by kernel_rfl) (by kernel_rfl) (by kernel_rfl) ?hQ594004 ?hy594004 (by assumption) ?rest594004
  case hi594004 => (simp only [List.getElem?_toArray, List.getElem?_cons_succ, List.getElem?_cons_zero]; exact rfl)
  case hQ594004 => exact fun _ _ _ h => h
  case hy594004 => (refine Or.inl ⟨by kernel_rfl, ?_⟩; intro w hSw; (try dsimp only at hSw); go_simp; try (with_reducible rfl))
  try simp only [Act.put, List.setIfInBounds_toArray, List.set_cons_zero, List.set_cons_succ]
  refine wpP_take (i := 4) (oi := ?oi594005) (v := ?v594005) ?hi594005 (by kernel_rfl) (by kernel_rfl) (by kernel_rfl) (by kernel_rfl) ?hQ594005 ?hy594005 (by assumption) ?rest594005
  case hi594005 => (simp only [List.getElem?_toArray, List.getElem?_cons_succ, List.getElem?_cons_zero]; exact rfl)
  case hQ594005 => exact fun _ _ _ h => h
  case hy594005 => (refine Or.inl ⟨by kernel_rfl, ?_⟩; intro w hSw; (try dsimp only at hSw); go_simp; try (with_reducible rfl))
  try simp only [Act.put, List.setIfInBounds_toArray, List.set_cons_zero, List.set_cons_succ]
  refine wpP_take (i := 5) (oi := ?oi594006) (v := ?v594006) ?hi594006 (by kernel_rfl) (by kernel_rfl) (by kernel_rfl) (by kernel_rfl) ?hQ594006 ?hy594006 (by assumption) ?rest594006
  case hi594006 => (simp only [List.getElem?_toArray, List.getElem?_cons_succ, List.getElem?_cons_zero]; exact rfl)
  case hQ594006 => exact fun _ _ _ h => h
  case hy594006 => (refine Or.inl ⟨by kernel_rfl, ?_⟩; intro w hSw; (try dsimp only at hSw); go_simp; try (with_reducible rfl))
  try simp only [Act.put, List.setIfInBounds_toArray, List.set_cons_zero, List.set_cons_succ]
  refine wpP_take (i := 6) (oi := ?oi594007) (v := ?v594007) ?hi594007 (by kernel_rfl) (by kernel_rfl) (by kernel_rfl) (by kernel_rfl) ?hQ594007 ?hy594007 (by assumption) ?rest594007
  case hi594007 => (simp only [List.getElem?_toArray, List.getElem?_cons_succ, List.getElem?_cons_zero]; exact rfl)
  case hQ594007 => exact fun _ _ _ h => h
  case hy594007 => (refine Or.inl ⟨by kernel_rfl, ?_⟩; intro w hSw; (try dsimp only at hSw); go_simp; try (with_reducible rfl))
  try simp only [Act.put, List.setIfInBounds_toArray, List.set_cons_zero, List.set_cons_succ]
  refine wpP_take (i := 7) (oi := ?oi594008) (v := ?v594008) ?hi594008 (by kernel_rfl) (by kernel_rfl) (by kernel_rfl) (by kernel_rfl) ?hQ594008 ?hy594008 (by assumption) ?rest594008
  case hi594008 => (simp only [List.getElem?_toArray, List.getElem?_cons_succ, List.getElem?_cons_zero]; exact rfl)
  case hQ594008 => exact fun _ _ _ h => h
  case hy594008 => (refine Or.inl ⟨by kernel_rfl, ?_⟩; intro w hSw; (try dsimp only at hSw); go_simp; try (with_reducible rfl))
  try simp only [Act.put, List.setIfInBounds_toArray, List.set_cons_zero, List.set_cons_succ]
  refine wpP_take (i := 8) (oi := ?oi594009) (v := ?v594009) ?hi594009 (by kernel_rfl) (by kernel_rfl) (by kernel_rfl) (by kernel_rfl) ?hQ594009 ?hy594009 (by assumption) ?rest594009
  case hi594009 => (simp only [List.getElem?_toArray, List.getElem?_cons_succ, List.getElem?_cons_zero]; exact rfl)
  case hQ594009 => exact fun _ _ _ h => h
  case hy594009 => (refine Or.inl ⟨by kernel_rfl, ?_⟩; intro w hSw; (try dsimp only at hSw); go_simp; try (with_reducible rfl))
  try simp only [Act.put, List.setIfInBounds_toArray, List.set_cons_zero, List.set_cons_succ]
  refine wpP_take (i := 9) (oi := ?oi594010) (v := ?v594010) ?hi594010 (by kernel_rfl) (by kernel_rfl) (by kernel_rfl) (by kernel_rfl) ?hQ594010 ?hy594010 (by assumption) ?rest594010
  case hi594010 => (simp only [List.getElem?_toArray, List.getElem?_cons_succ, List.getElem?_cons_zero]; exact rfl)
  case hQ594010 => exact fun _ _ _ h => h
  case hy594010 => (refine Or.inl ⟨by kernel_rfl, ?_⟩; intro w hSw; (try dsimp only at hSw); go_simp; try (with_reducible rfl))
  try simp only [Act.put, List.setIfInBounds_toArray, List.set_cons_zero, List.set_cons_succ]
  refine wpP_take (i := 10) (oi := ?oi594011) (v := ?v594011) ?hi594011 (by kernel_rfl) (by kernel_rfl) (by kernel_rfl) (by kernel_rfl) ?hQ594011 ?hy594011 (by assumption) ?rest594011
  case hi594011 => (simp only [List.getElem?_toArray, List.getElem?_cons_succ, List.getElem?_cons_zero]; exact rfl)
  case hQ594011 => exact fun _ _ _ h => h
  case hy594011 => (refine Or.inl ⟨by kernel_rfl, ?_⟩; intro w hSw; (try dsimp only at hSw); go_simp; try (with_reducible rfl))
  try simp only [Act.put, List.setIfInBounds_toArray, List.set_cons_zero, List.set_cons_succ]
  refine wpP_take (i := 11) (oi := ?oi594012) (v := ?v594012) ?hi594012 (by kernel_rfl) (by kernel_rfl) (by kernel_rfl) (by kernel_rfl) ?hQ594012 ?hy594012 (by assumption) ?rest594012
  case hi594012 => (simp only [List.getElem?_toArray, List.getElem?_cons_succ, List.getElem?_cons_zero]; exact rfl)
  case hQ594012 => exact fun _ _ _ h => h
  case hy594012 => (refine Or.inl ⟨by kernel_rfl, ?_⟩; intro w hSw; (try dsimp only at hSw); go_simp; try (with_reducible rfl))
  try simp only [Act.put, List.setIfInBounds_toArray, List.set_cons_zero, List.set_cons_succ]
  refine wpP_take (i := 12) (oi := ?oi594013) (v := ?v594013) ?hi594013 (by kernel_rfl) (by kernel_rfl) (by kernel_rfl) (by kernel_rfl) ?hQ594013 ?hy594013 (by assumption) ?rest594013
  case hi594013 => (simp only [List.getElem?_toArray, List.getElem?_cons_succ, List.getElem?_cons_zero]; exact rfl)
  case hQ594013 => exact fun _ _ _ h => h
  case hy594013 => (refine Or.inl ⟨by kernel_rfl, ?_⟩; intro w hSw; (try dsimp only at hSw); go_simp; try (with_reducible rfl))
  try simp only [Act.put, List.setIfInBounds_toArray, List.set_cons_zero, List.set_cons_succ]
  refine wpP_take (i := 13) (oi := ?oi594014) (v := ?v594014) ?hi594014 (by kernel_rfl) (by kernel_rfl) (by kernel_rfl) (by kernel_rfl) ?hQ594014 ?hy594014 (by assumption) ?rest594014
  case hi594014 => (simp only [List.getElem?_toArray, List.getElem?_cons_succ, List.getElem?_cons_zero]; exact rfl)
  case hQ594014 => exact fun _ _ _ h => h
  case hy594014 => (refine Or.inl ⟨by kernel_rfl, ?_⟩; intro w hSw; (try dsimp only at hSw); go_simp; try (with_reducible rfl))
  try simp only [Act.put, List.setIfInBounds_toArray, List.set_cons_zero, List.set_cons_succ]
  refine wpP_take (i := 14) (oi := ?oi594015) (v := ?v594015) ?hi594015 (by kernel_rfl) (by kernel_rfl) (by kernel_rfl) (by kernel_rfl) ?hQ594015 ?hy594015 (by assumption) ?rest594015
  case hi594015 => (simp only [List.getElem?_toArray, List.getElem?_cons_succ, List.getElem?_cons_zero]; exact rfl)
  case hQ594015 => exact fun _ _ _ h => h
  case hy594015 => (refine Or.inl ⟨by kernel_rfl, ?_⟩; intro w hSw; (try dsimp only at hSw); go_simp; try (with_reducible rfl))
  try simp only [Act.put, List.setIfInBounds_toArray, List.set_cons_zero, List.set_cons_succ]
  refine wpP_ready (rs := [15]) (by kernel_rfl) (by simp) ?_
  refine AllP.cons (o := ?o594016) ?ho594016 (fun K hK => ?_) AllP.nil
  case ho594016 => (simp only [List.getElem?_toArray, List.getElem?_cons_succ, List.getElem?_cons_zero]; exact rfl)
  go_simp
  go_at_call 113
  refine (put19_ok sb p b _ hsb (by omega) (by omega)).mono ?_
  rintro e w5 ⟨rfl, hb5⟩
  have k5 : Below W4.heap.size W4 w5 := below_und hb5
  refine hK.out _ _ ?_ (fun hHeld => ?_)
  · exact ⟨cell_keep hHeld.1 hb5, cell_keep hHeld.2.1 hb5, cell_keep hHeld.2.2.1 hb5, cell_keep hHeld.2.2.2 hb5⟩
  clear hK K
  try simp only [Act.put, List.setIfInBounds_toArray, List.set_cons_zero, List.set_cons_succ]
  refine wpP_ready (rs := [16]) (by kernel_rfl) (by simp) ?_
  refine AllP.cons (o := ?o594017) ?ho594017 (fun K hK => ?_) AllP.nil
  case ho594017 => (simp only [List.getElem?_toArray, List.getElem?_cons_succ, List.getElem?_cons_zero]; exact rfl)
  go_simp
  go_at_call 81
  refine (HWI.out _ _ _ (HRV.out.below k5)).mono ?_
  rintro e w6 ⟨g6, c6, rfl, hg6, hgs6, hb6⟩
  have k6 : Below W4.heap.size W4 w6 := below_more k5 k5.size hb6
  have hq9' := blk_keep HQ9.out k6
  obtain ⟨z0, z1, z2, z3, z4, z5, z6, z7, z8, z9, z10, z11, z12, z13, z14⟩ := cells15 hq9'
  have hf9 := free_of hq9' 0
  have hs9 := blk_set hq9' 0 (.slice (some ⟨g6, 0, none⟩) v.length c6)
  simp only [List.setIfInBounds_toArray, List.set_cons_zero] at hs9
  obtain ⟨y0, y1, y2, y3, y4, y5, y6, y7, y8, y9, y10, y11, y12, y13, y14⟩ := cells15 hs9
  have hu1 := blk_keep HU4.out k6
  have hu2 := blk_set_other hu1 hne1 0 (.slice (some ⟨g6, 0, none⟩) v.length c6)
  obtain ⟨fr0, fr1, fr2, fr3, fr4, fr5, fr6, fr7, fr8, fr9, fr10, fr11, fr12, fr13, fr14⟩ := frees15 hu2
  obtain ⟨u0, u1, u2, u3, u4, u5, u6, u7, u8, u9, u10, u11, u12, u13, u14⟩ := cells15 hu2
  have HU2 := Lib.hid hu2
  refine hK.out _ _ ?_ (fun hHeld => ?_)
  · exact ⟨cell_keep hHeld.1 hb6, cell_keep hHeld.2.1 hb6, cell_keep hHeld.2.2.1 hb6, cell_keep hHeld.2.2.2 hb6⟩
  clear hK K
  try simp only [Act.put, List.setIfInBounds_toArray, List.set_cons_zero, List.set_cons_succ]
  refine wpP_take (i := 17) (oi := ?oi594018) (v := ?v594018) ?hi594018 (by kernel_rfl) (by kernel_rfl) (by kernel_rfl) (by kernel_rfl) ?hQ594018 ?hy594018 (by assumption) ?rest594018
  case hi594018 => (simp only [List.getElem?_toArray, List.getElem?_cons_succ, List.getElem?_cons_zero]; exact rfl)
  case hQ594018 => exact fun _ _ _ h => h
  case hy594018 => (refine Or.inl ⟨by kernel_rfl, ?_⟩; intro w hSw; (try dsimp only at hSw); go_simp; try (with_reducible rfl))
  try simp only [Act.put, List.setIfInBounds_toArray, List.set_cons_zero, List.set_cons_succ]
  refine wpP_ready (rs := [18]) (by kernel_rfl) (by simp) ?_
  refine AllP.last (o := ?o594019) ?ho594019 (by kernel_rfl) (fun K hK => ?_) AllP.nil
  case ho594019 => (simp only [List.getElem?_toArray, List.getElem?_cons_succ, List.getElem?_cons_zero]; exact rfl)
  go_simp
  refine hK.out _ _ ?_
  clear hK K
  try simp only [Act.put, List.setIfInBounds_toArray, List.set_cons_zero, List.set_cons_succ]
  refine wpP_done (by kernel_rfl) ?_ _
  go_wp2
  have hbf := blk_set15 (a0 := .slice (some ⟨g6, 0, none⟩) v.length c6) (a1 := .int .i64 ((x.kind : Nat) : Int)) (a2 := .int .i64 ((x.links : Nat) : Int)) (a3 := .int .i64 ((x.owner : Nat) : Int)) (a4 := .int .i64 ((x.size : Nat) : Int)) (a5 := .int .i64 ((x.d0 : Nat) : Int)) (a6 := .int .i64 ((x.d1 : Nat) : Int)) (a7 := .int .i64 ((x.d2 : Nat) : Int)) (a8 := .int .i64 ((x.d3 : Nat) : Int)) (a9 := .int .i64 ((x.d4 : Nat) : Int)) (a10 := .int .i64 ((x.d5 : Nat) : Int)) (a11 := .int .i64 ((x.ind : Nat) : Int)) (a12 := .int .i64 ((x.ext : Nat) : Int)) (a13 := .int .i64 b) (a14 := .int .i64 0) HU2.out
  obtain ⟨r0, r1, r2, r3, r4, r5, r6, r7, r8, r9, r10, r11, r12, r13, r14⟩ := cells15 hbf
  refine bodyPost_ret (v := .agg #[.slice (some ⟨g6, 0, none⟩) v.length c6, .int .i64 ((x.kind : Nat) : Int), .int .i64 ((x.links : Nat) : Int), .int .i64 ((x.owner : Nat) : Int), .int .i64 ((x.size : Nat) : Int), .int .i64 ((x.d0 : Nat) : Int), .int .i64 ((x.d1 : Nat) : Int), .int .i64 ((x.d2 : Nat) : Int), .int .i64 ((x.d3 : Nat) : Int), .int .i64 ((x.d4 : Nat) : Int), .int .i64 ((x.d5 : Nat) : Int), .int .i64 ((x.ind : Nat) : Int), .int .i64 ((x.ext : Nat) : Int), .int .i64 b, .int .i64 0]) (by simp [results, Try.results80, go_sem, r0, r1, r2, r3, r4, r5, r6, r7, r8, r9, r10, r11, r12, r13, r14]) rfl ?_
  have s6 := hg6.lt
  have s7 := k5.size
  have s8 := blk_lt HQ9.out
  refine ⟨g6, c6, rfl, ?_, by omega, below_set15 (below_set (below_keep HB4.out (Nat.le_refl _) k6) (by omega)) (by omega)⟩
  obtain ⟨cur, hg, hc⟩ := hg6.other (show g6 ≠ q9 by omega) (i := 0) (u := .slice (some ⟨g6, 0, none⟩) v.length c6)
  exact ⟨cur, heap_set15 hg (show g6 ≠ w.heap.size + 1 by omega), hc⟩
end Go.Proofs.Ytacdohlhalnioaa
end

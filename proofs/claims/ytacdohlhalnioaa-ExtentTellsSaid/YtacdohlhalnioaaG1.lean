/- Contracts: a volume with another block (the program's and the document's). -/
import Derived.Test.YtacdohlhalnioaaM1
import Derived.Test.YtacdohlhalnioaaC3
set_option linter.unusedVariables false
set_option maxRecDepth 20000
namespace Go.Proofs.Ytacdohlhalnioaa
open Go.RowKit
attribute [local go_sem] Oper.semAt_some

theorem mk_strs (m : Nat) (hm : m ≤ 8796093022208) (W : World) : (Instr.makeSlice 22 (.int .i64 (m : Int)) (.int .i64 (m : Int))).run Try.prog W = .ok (.slice (some ⟨W.heap.size, 0, none⟩) m m) (W.alloc (.cells (strs (List.replicate m [])).toArray 9)) := by
  obtain ⟨i0, hi, hz0, hz1, hz2⟩ := info_parts (show (Try.prog.info? 9).map (fun i => (i.zero, i.size, i.bytes)) = some (some (.string (mk [])), 1, 16) by kernel_rfl)
  exact make_str _ _ i0 Try.underlying22 hi hz0 hz1 hz2 m hm W
theorem src_cell {w : World} {b o j : Nat} {u : Value} (h : w.cell? ⟨b, o + j, none⟩ = some u) : w.cell? ((⟨b, o, none⟩ : Addr).add j) = some u := by
  by_cases hj : j = 0
  · subst hj; simpa [Addr.add] using h
  · simpa [Addr.add, hj] using h
abbrev VS := VB 9
set_option maxHeartbeats 400000 in
theorem with_ok (A : Option Addr) (c : Nat) (v : Vol) (i : Nat) (s : Blk) (w : World) (hr : RS w A v) (hi : i < v.length) :
    Calls Try.prog 135 #[.slice A v.length c, .int .i64 i, .string (mk s)] w fun e w' => ∃ g, e = .returned (.slice (some ⟨g, 0, none⟩) v.length v.length) ∧ VS w' g (v.set i s) ∧ w.heap.size ≤ g ∧ Below w.heap.size w w' := by
  have hl := hr.1
  obtain ⟨bA, oA, rfl, hbA, hc⟩ := hr.open_ (by omega)
  have HC := Lib.hid hc
  clear hr hc
  have hmk := mk_strs v.length hl
  have hi' : (i : Int) < (v.length : Nat) := by omega
  go_enter Try.func135, Try.ntmps135
  go_wp2_with (refine wpList_copy_splice rfl _ _ 22 22 rfl 9 Try.underlying22 (by kernel_rfl) _ _ v.length v.length v.length c rfl rfl w.heap.size 0 (strs (List.replicate v.length [])) 9 (blk_new w _) (strs v) (by rw [strs_length]; exact (Nat.min_self _).symm) (fun _ => ⟨rfl, _, rfl, ?_⟩) (by simp [strs_length]) (strs_one v) w.heap.size w ((Below.refl _ _).alloc (Nat.le_refl _) _) (Nat.le_refl _) ?_)
  · intro j u hu
    have hj : j < v.length := by
      rw [← strs_length v]
      exact (List.getElem?_eq_some_iff.1 hu).1
    rw [strs_get v j hj] at hu
    injection hu with hu
    subst hu
    exact cell_keep (src_cell (HC.out j hj)) ((Below.refl _ _).alloc (Nat.le_refl _) _)
  · intro w1 hg1 hb1
    have hv1 : VS w1 w.heap.size v := ⟨_, hg1.out, fun j hj => by rw [splice_all v.length _ _ (by simp [strs_length]) (strs_length v), List.getElem?_toArray]; exact strs_get v j hj⟩
    clear hg1
    have hcell := hv1.cell i hi
    have hfree := hv1.free i
    have HV := Lib.hid hv1
    clear hv1
    go_wp2
    go_ret
    exact ⟨_, rfl, HV.out.set i s hi, Nat.le_refl _, below_set hb1 (Nat.le_refl _)⟩
set_option maxHeartbeats 400000 in
theorem rwith_ok (A : Option Addr) (c : Nat) (v : Vol) (i : Nat) (s : Blk) (w : World) (hr : RS w A v) (hi : i < v.length) :
    Calls Try.prog 117 #[.slice A v.length c, .int .i64 i, .string (mk s)] w fun e w' => ∃ g c', e = .returned (.slice (some ⟨g, 0, none⟩) v.length c') ∧ VS w' g (v.set i s) ∧ w.heap.size ≤ g ∧ Below w.heap.size w w' := by
  have hl := hr.1
  obtain ⟨bA, oA, rfl, hbA, hc⟩ := hr.open_ (by omega)
  have HC := Lib.hid hc
  clear hr hc
  have hi' : (i : Int) < (v.length : Nat) := by omega
  obtain ⟨i0, hi0, hz0, hz1, hz2⟩ := info_parts (show (Try.prog.info? 9).map (fun i => (i.zero, i.size, i.bytes)) = some (some (.string (mk [])), 1, 16) by kernel_rfl)
  go_enter Try.func117, Try.ntmps117
  have hown : (w.alloc (.cells #[] 9)).ownsRow w.heap.size 9 1 (.slice (some ⟨w.heap.size, 0, none⟩) 0 0) 0 [] :=
    ⟨rfl, .inr ⟨w.heap.size, 0, #[], rfl, Nat.le_refl _, blk_new w _, Nat.le_refl _, by simp [maxLen], rfl, rfl⟩⟩
  have HO := Lib.hid hown
  clear hown
  go_wp2_with (at_builtin; refine wpList_append_own _ rfl _ _ 22 rfl w.heap.size 9 i0 _ 1 16 Try.underlying22 hi0 hz0 hz1 hz2 rfl (by decide) _ 0 [] rfl HO.out ⟨bA, oA, none⟩ v.length c (strs v) rfl (by rw [strs_length, Nat.mul_one]) ?hn (strs_one v) (by simp only [maxLen]; omega) (by omega) (by simp) ?hk)
  case hn =>
    intro j u hu
    have hj : j < v.length := by
      rw [← strs_length v]
      exact (List.getElem?_eq_some_iff.1 hu).1
    rw [strs_get v j hj] at hu
    injection hu with hu
    subst hu
    exact cell_keep (src_cell (HC.out j hj)) ((Below.refl _ _).alloc (Nat.le_refl _) _)
  case hk =>
    intro u w1 hown1 hgrow _
    have hb1 : Below w.heap.size w w1 := ((Below.refl _ _).alloc (Nat.le_refl _) _).grown hgrow (by simp) (fun k e => by cases e; exact Nat.le_refl _)
    obtain ⟨g, cap, rfl, hg, hv1⟩ := VB.of_own hown1 rfl (by omega)
    clear hown1 hgrow
    have hcell := hv1.cell i hi
    have hfree := hv1.free i
    have HV := Lib.hid hv1
    clear hv1
    go_wp2
    go_ret
    exact ⟨_, _, rfl, HV.out.set i s hi, hg, below_set hb1 hg⟩
end Go.Proofs.Ytacdohlhalnioaa

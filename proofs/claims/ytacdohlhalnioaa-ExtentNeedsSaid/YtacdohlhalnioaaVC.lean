/- Joined: XTC. -/
import Derived.Test.YtacdohlhalnioaaKG
import Derived.ChangeMaps5
import Derived.Test.YtacdohlhalnioaaT9
/-
  The statement on what a write takes, proved: for every row of acts, every place and every text: a write takes just the blocks that it falls into and weren't there, and one more, for the numbers of those beyond the sixth, if that isn't there. No condition: whatever comes in.
-/
section
set_option linter.unusedSimpArgs false
set_option linter.unusedVariables false
namespace Go.Proofs.Ytacdohlhalnioaa
open Go.ChangeShapes Go.WideShapes Go.ChangeAt Go.RowKit

set_option maxRecDepth 100000 in
theorem extentNeeds_lifted (os : Os) (started : os.Started) (H : Type) (enc : TypeId × Value → H) :
    ReturnsInHanded {} Try.checked os 12 .any (Rows.extentNeedsSpec.pre6 enc Try.prog Try.f12 Rows.extentNeedsRow.domain false) (Rows.extentNeedsSpec.post enc Try.prog Try.f12 false true false false) := by
  refine returnsInHanded_of_change_sized (C := Try.checked) Try.own started (by kernel_rfl) Try.func12
    (ChangeSpec.witness6 (enc := enc) (C := Try.checked) false ⟨#[], #[.slice none 0 0, .int .u16 0, .string ByteArray.empty], []⟩ 8 (by kernel_rfl) (by kernel_rfl) (by kernel_rfl) (by kernel_rfl)) ?_
  intro W base args ds gs before hval0 hW _ hsz0 _
  have hsz : (DataW.weightsEach Try.prog (Try.f12.params.toList ++ Rows.extentNeedsSpec.plain.varTypes Try.prog) (ds ++ gs)).all (· ≤ reachBytes) = true := hsz0
  clear hsz0
  have hval : ∀ (j : Nat) t v, Try.f12.params[j]? = some t → args[j]? = some v → Value.okWide Try.prog W .any base t v := hval0
  have hW' := hW
  obtain ⟨p, q, hA0, hV, rfl, hfz, hnd⟩ := hW
  have hA : DataW.TrodAll enc Try.prog W 0 (fun _ => true) true Try.f12.params.toList args.toList ds p := hA0
  have hA' := hA
  rw [Try.params12] at hA hval hsz
  obtain ⟨v0, v1, v2, d0, d1, d2, p0, p1, p2, rfl, rfl, rfl, h0, h1, h2⟩ := trodAll_three hA
  obtain ⟨rfl, rfl⟩ := trodVars_none hV
  clear hA0 hval0
  simp only [List.append_nil] at hW'
  have hlt : ∀ x ∈ p0, x.block < W.heap.size := fun x hx => by simpa using hW'.lt x (by simp [hx])
  have hlt0 : ∀ x ∈ p0, x.block < W.heap.size := fun x hx => by simpa using hW'.lt x (by simp [hx])
  obtain ⟨A0, l0, c0, rfl, hr0, hd0⟩ := open_deeds (okWide_slice Try.underlying52 (hval 0 52 v0 rfl rfl)) h0 hlt0 hsz (j := 0) rfl rfl
  obtain ⟨n1, rfl, _, _, wn1⟩ := open_int Try.underlying37 (hval 1 37 v1 rfl rfl) h1
  have bd1 := bounds_u16 wn1
  obtain ⟨s2, rfl, rfl, _, _⟩ := Go.ChangeMaps.open_string Try.underlying9 (hval 2 9 v2 rfl rfl) h2
  have bs2 := sized_string hsz (j := 2) rfl rfl
  simp only [reachBytes] at bs2
  obtain ⟨t2, rfl⟩ := mk_ex s2
  have bt2 : (t2.length : Int) ≤ 140737488351232 := by have h : t2.length ≤ 140737488351232 := bs2; omega
  refine (needs_i A0 c0 l0 n1 t2 W hr0 hd0 bd1 bt2).mono ?_
  rintro e W' ⟨rfl, hb⟩
  exact ⟨_, rfl, law_end rfl hW' hA' (by kernel_rfl) (by kernel_rfl) rfl rfl rfl hb⟩
theorem extentNeeds_holds : Rows.ExtentNeedsSaid :=
  OpenClaim.holds_of_wide 12 Try.f12 rfl rfl rfl rfl rfl rfl rfl ⟨rfl, rfl, rfl, rfl, rfl⟩ rfl rfl rfl rfl rfl (by kernel_rfl) Try.func12 (by kernel_rfl)
    (of_decide_eq_true (by kernel_rfl)) (by unfold Func.isWrapper; rw [if_neg (of_decide_eq_false (by kernel_rfl))]; exact ⟨rfl, rfl⟩)
    (fun os started H enc _ => extentNeeds_lifted os started H enc)
end Go.Proofs.Ytacdohlhalnioaa
end

/- Joined: XT7. -/
import Derived.Test.YtacdohlhalnioaaJI
import Derived.Test.YtacdohlhalnioaaT9
/-
  The statement on whatever is written and cut, proved: for every volume and every row of acts each answer of the program's is the document's. No condition: whatever comes in.
-/
section
set_option linter.unusedSimpArgs false
set_option linter.unusedVariables false
namespace Go.Proofs.Ytacdohlhalnioaa
open Go.ChangeShapes Go.WideShapes Go.ChangeAt Go.RowKit

set_option maxRecDepth 100000 in
theorem extentPlays_lifted (os : Os) (started : os.Started) (H : Type) (enc : TypeId × Value → H) :
    ReturnsInHanded {} Try.checked os 8 .any (Rows.extentPlaysSpec.pre6 enc Try.prog Try.f8 Rows.extentPlaysRow.domain false) (Rows.extentPlaysSpec.post enc Try.prog Try.f8 false true false false) := by
  refine returnsInHanded_of_change_sized (C := Try.checked) Try.own started (by kernel_rfl) Try.func8
    (ChangeSpec.witness6 (enc := enc) (C := Try.checked) false ⟨#[], #[.slice none 0 0, .slice none 0 0], []⟩ 8 (by kernel_rfl) (by kernel_rfl) (by kernel_rfl) (by kernel_rfl)) ?_
  intro W base args ds gs before hval0 hW _ hsz0 _
  have hsz : (DataW.weightsEach Try.prog (Try.f8.params.toList ++ Rows.extentPlaysSpec.plain.varTypes Try.prog) (ds ++ gs)).all (· ≤ reachBytes) = true := hsz0
  clear hsz0
  have hval : ∀ (j : Nat) t v, Try.f8.params[j]? = some t → args[j]? = some v → Value.okWide Try.prog W .any base t v := hval0
  have hW' := hW
  obtain ⟨p, q, hA0, hV, rfl, hfz, hnd⟩ := hW
  have hA : DataW.TrodAll enc Try.prog W 0 (fun _ => true) true Try.f8.params.toList args.toList ds p := hA0
  have hA' := hA
  rw [Try.params8] at hA hval hsz
  obtain ⟨v0, v1, d0, d1, p0, p1, rfl, rfl, rfl, h0, h1⟩ := trodAll_two hA
  obtain ⟨rfl, rfl⟩ := trodVars_none hV
  clear hA0 hval0
  simp only [List.append_nil] at hW'
  have hlt : ∀ x ∈ p0, x.block < W.heap.size := fun x hx => by simpa using hW'.lt x (by simp [hx])
  have hlt1 : ∀ x ∈ p1, x.block < W.heap.size := fun x hx => by simpa using hW'.lt x (by simp [hx])
  obtain ⟨A0, l0, c0, rfl, hr0⟩ := open_vol (okWide_slice Try.underlying22 (hval 0 22 v0 rfl rfl)) h0 hlt hsz (j := 0) rfl rfl
  obtain ⟨A1, l1, c1, rfl, hr1, hd1⟩ := open_deeds (okWide_slice Try.underlying52 (hval 1 52 v1 rfl rfl)) h1 hlt1 hsz (j := 1) rfl rfl
  refine (plays_ok A0 A1 c0 c1 l0 l1 W hr0 hr1 hd1).mono ?_
  rintro e W' ⟨rfl, hb⟩
  exact ⟨_, rfl, law_end rfl hW' hA' (by kernel_rfl) (by kernel_rfl) rfl rfl rfl hb⟩
theorem extentPlays_holds : Rows.ExtentPlaysSaid :=
  OpenClaim.holds_of_wide 8 Try.f8 rfl rfl rfl rfl rfl rfl rfl ⟨rfl, rfl, rfl, rfl, rfl⟩ rfl rfl rfl rfl rfl (by kernel_rfl) Try.func8 (by kernel_rfl)
    (of_decide_eq_true (by kernel_rfl)) (by unfold Func.isWrapper; rw [if_neg (of_decide_eq_false (by kernel_rfl))]; exact ⟨rfl, rfl⟩)
    (fun os started H enc _ => extentPlays_lifted os started H enc)
end Go.Proofs.Ytacdohlhalnioaa
end

/-
  The statement on extent's telling, proved: for every volume, every number, every two places: the blocks, how many there are, and the bytes are the document's.
  No condition: whatever comes in.
-/
import Derived.Test.YtacdohlhalnioaaL2
import Derived.Test.YtacdohlhalnioaaT0
set_option linter.unusedVariables false
namespace Go.Proofs.Ytacdohlhalnioaa
open Go.ChangeShapes Go.WideShapes Go.ChangeAt Go.RowKit

set_option maxRecDepth 100000 in
theorem pair_open {H : Type} {enc : TypeId × Value → H} {W : World} {v : Value} {d : DataW H} {p : List MemPlace} {r : Reach} {base : Nat}
    (hok : Value.okWide Try.prog W r base 23 v) (h : DataW.Trod enc Try.prog W 0 (fun _ => true) true 23 v d p) :
    ∃ a b : Int, v = .agg #[.int .i64 a, .int .i64 b] ∧ (Lit.int .i64 a).wf = true ∧ (Lit.int .i64 b).wf = true := by
  simp only [Value.okWide, Try.underlying23] at hok
  obtain ⟨cs, rfl, hcs, _⟩ := hok
  rw [show Try.prog.cellsOf 23 = 2 by kernel_rfl] at hcs
  obtain ⟨fuel, hf⟩ := h
  obtain ⟨xs, m, _, _, _, _, hel⟩ := DataW.trod_array Try.underlying23 hf
  rw [show Try.prog.cellsOf 3 = 1 by kernel_rfl] at hel
  obtain ⟨c0, c1, rfl⟩ : ∃ c0 c1, cs = #[c0, c1] := by
    obtain ⟨l⟩ := cs
    match l, hcs with
    | [c0, c1], _ => exact ⟨c0, c1, rfl⟩
  have h0 := hel 0 (by omega)
  have h1 := hel 1 (by omega)
  have x0 : ∃ y, xs[0]? = some y := ⟨_, List.getElem?_eq_getElem (by omega)⟩
  have x1 : ∃ y, xs[1]? = some y := ⟨_, List.getElem?_eq_getElem (by omega)⟩
  obtain ⟨y0, e0⟩ := x0
  obtain ⟨y1, e1⟩ := x1
  rw [e0] at h0
  rw [e1] at h1
  obtain ⟨a, z0, _, wa⟩ := DataW.trod_int Try.underlying3 h0
  obtain ⟨b, z1, _, wb⟩ := DataW.trod_int Try.underlying3 h1
  simp [Value.cells] at z0 z1
  subst z0 z1
  exact ⟨a, b, rfl, wa, wb⟩

set_option maxRecDepth 100000 in
theorem tells_lifted (os : Os) (started : os.Started) (H : Type) (enc : TypeId × Value → H) :
    ReturnsInHanded {} Try.checked os 3 .any (Rows.extentTellsSpec.pre6 enc Try.prog Try.f3 Rows.extentTellsRow.domain false) (Rows.extentTellsSpec.post enc Try.prog Try.f3 false true false false) := by
  refine returnsInHanded_of_change_sized (C := Try.checked) Try.own started (by kernel_rfl) Try.func3
    (ChangeSpec.witness6 (enc := enc) (C := Try.checked) false ⟨#[], #[.slice none 0 0, .int .i64 0, .agg #[.int .i64 0, .int .i64 0]], []⟩ 8 (by kernel_rfl) (by kernel_rfl) (by kernel_rfl) (by kernel_rfl)) ?_
  intro W base args ds gs before hval0 hW _ hsz0 _
  have hsz : (DataW.weightsEach Try.prog (Try.f3.params.toList ++ Rows.extentTellsSpec.plain.varTypes Try.prog) (ds ++ gs)).all (· ≤ reachBytes) = true := hsz0
  clear hsz0
  have hval : ∀ (j : Nat) t v, Try.f3.params[j]? = some t → args[j]? = some v → Value.okWide Try.prog W .any base t v := hval0
  have hW' := hW
  obtain ⟨p, q, hA0, hV, rfl, hfz, hnd⟩ := hW
  have hA : DataW.TrodAll enc Try.prog W 0 (fun _ => true) true Try.f3.params.toList args.toList ds p := hA0
  have hA' := hA
  rw [Try.params3] at hA hval hsz
  obtain ⟨v0, v1, v2, d0, d1, d2, p0, p1, p2, rfl, rfl, rfl, h0, h1, h2⟩ := trodAll_three hA
  obtain ⟨rfl, rfl⟩ := trodVars_none hV
  clear hA0 hval0
  simp only [List.append_nil] at hW'
  have hlt : ∀ x ∈ p0, x.block < W.heap.size := fun x hx => by simpa using hW'.lt x (by simp [hx])
  obtain ⟨n, rfl, _, _, wn⟩ := open_int Try.underlying3 (hval 1 3 v1 rfl rfl) h1
  obtain ⟨a, b, rfl, wa, wb⟩ := pair_open (hval 2 23 v2 rfl rfl) h2
  obtain ⟨A, l, c, rfl, hr⟩ := open_vol (okWide_slice Try.underlying22 (hval 0 22 v0 rfl rfl)) h0 hlt hsz (j := 0) rfl rfl
  have ba := bounds_i64 wa
  have bb := bounds_i64 wb
  refine (tells_ok A c l n a b W hr (by omega) (by omega)).mono ?_
  rintro e W' ⟨rfl, hb⟩
  exact ⟨_, rfl, law_end rfl hW' hA' (by kernel_rfl) (by kernel_rfl) rfl rfl rfl hb⟩
theorem extentTells_holds : Rows.ExtentTellsSaid :=
  OpenClaim.holds_of_wide 3 Try.f3 rfl rfl rfl rfl rfl rfl rfl ⟨rfl, rfl, rfl, rfl, rfl⟩ rfl rfl rfl rfl rfl (by kernel_rfl) Try.func3 (by kernel_rfl)
    (of_decide_eq_true (by kernel_rfl)) (by unfold Func.isWrapper; rw [if_neg (of_decide_eq_false (by kernel_rfl))]; exact ⟨rfl, rfl⟩)
    (fun os started H enc _ => tells_lifted os started H enc)
end Go.Proofs.Ytacdohlhalnioaa

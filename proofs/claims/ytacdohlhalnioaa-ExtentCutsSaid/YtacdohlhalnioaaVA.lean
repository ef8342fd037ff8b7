/- Joined: XTA. -/
import Derived.Test.YtacdohlhalnioaaKE
import Derived.Test.YtacdohlhalnioaaT9
/-
  The statement on cuts, proved: for every row of acts and every two sizes: behind a cut a file's bytes are its first ones, or these and zeros behind them; no other file's are others; made longer again, zeros stand behind. No condition: whatever comes in.
-/
section
set_option linter.unusedSimpArgs false
set_option linter.unusedVariables false
namespace Go.Proofs.Ytacdohlhalnioaa
open Go.ChangeShapes Go.WideShapes Go.ChangeAt Go.RowKit

set_option maxRecDepth 100000 in
theorem pair16_open {H : Type} {enc : TypeId × Value → H} {W : World} {v : Value} {d : DataW H} {p : List MemPlace} {r : Reach} {base : Nat}
    (hok : Value.okWide Try.prog W r base 73 v) (h : DataW.Trod enc Try.prog W 0 (fun _ => true) true 73 v d p) :
    ∃ a b : Nat, v = .agg #[.int .u16 (a : Int), .int .u16 (b : Int)] ∧ a < 65536 ∧ b < 65536 := by
  simp only [Value.okWide, Try.underlying73] at hok
  obtain ⟨cs, rfl, hcs, _⟩ := hok
  rw [show Try.prog.cellsOf 73 = 2 by kernel_rfl] at hcs
  obtain ⟨fuel, hf⟩ := h
  obtain ⟨xs, m, _, _, _, _, hel⟩ := DataW.trod_array Try.underlying73 hf
  rw [show Try.prog.cellsOf 37 = 1 by kernel_rfl] at hel
  obtain ⟨c0, c1, rfl⟩ : ∃ c0 c1, cs = #[c0, c1] := by
    obtain ⟨l⟩ := cs
    match l, hcs with
    | [c0, c1], _ => exact ⟨c0, c1, rfl⟩
  have h0 := hel 0 (by omega)
  have h1 := hel 1 (by omega)
  have x0 : ∃ y, xs[0]? = some y := ⟨_, List.getElem?_eq_getElem (by omega)⟩
  have x1 : ∃ y, xs[1]? = some y := ⟨_, List.getElem?_eq_getElem (by omega)⟩
  obtain ⟨y0, e0⟩ := x0
  obtain ⟨y1, e1⟩ := x1
  rw [e0] at h0
  rw [e1] at h1
  obtain ⟨a, z0, _, wa⟩ := DataW.trod_int Try.underlying37 h0
  obtain ⟨b, z1, _, wb⟩ := DataW.trod_int Try.underlying37 h1
  simp [Value.cells] at z0 z1
  subst z0 z1
  have ba := bounds_u16 wa
  have bb := bounds_u16 wb
  refine ⟨a.toNat, b.toNat, ?_, by omega, by omega⟩
  rw [Int.toNat_of_nonneg (by omega), Int.toNat_of_nonneg (by omega)]

set_option maxRecDepth 100000 in
theorem extentCuts_lifted (os : Os) (started : os.Started) (H : Type) (enc : TypeId × Value → H) :
    ReturnsInHanded {} Try.checked os 15 .any (Rows.extentCutsSpec.pre6 enc Try.prog Try.f15 Rows.extentCutsRow.domain false) (Rows.extentCutsSpec.post enc Try.prog Try.f15 false true false false) := by
  refine returnsInHanded_of_change_sized (C := Try.checked) Try.own started (by kernel_rfl) Try.func15
    (ChangeSpec.witness6 (enc := enc) (C := Try.checked) false ⟨#[], #[.slice none 0 0, .agg #[.int .u16 0, .int .u16 0]], []⟩ 8 (by kernel_rfl) (by kernel_rfl) (by kernel_rfl) (by kernel_rfl)) ?_
  intro W base args ds gs before hval0 hW _ hsz0 _
  have hsz : (DataW.weightsEach Try.prog (Try.f15.params.toList ++ Rows.extentCutsSpec.plain.varTypes Try.prog) (ds ++ gs)).all (· ≤ reachBytes) = true := hsz0
  clear hsz0
  have hval : ∀ (j : Nat) t v, Try.f15.params[j]? = some t → args[j]? = some v → Value.okWide Try.prog W .any base t v := hval0
  have hW' := hW
  obtain ⟨p, q, hA0, hV, rfl, hfz, hnd⟩ := hW
  have hA : DataW.TrodAll enc Try.prog W 0 (fun _ => true) true Try.f15.params.toList args.toList ds p := hA0
  have hA' := hA
  rw [Try.params15] at hA hval hsz
  obtain ⟨v0, v1, d0, d1, p0, p1, rfl, rfl, rfl, h0, h1⟩ := trodAll_two hA
  obtain ⟨rfl, rfl⟩ := trodVars_none hV
  clear hA0 hval0
  simp only [List.append_nil] at hW'
  have hlt : ∀ x ∈ p0, x.block < W.heap.size := fun x hx => by simpa using hW'.lt x (by simp [hx])
  have hlt0 : ∀ x ∈ p0, x.block < W.heap.size := fun x hx => by simpa using hW'.lt x (by simp [hx])
  obtain ⟨A0, l0, c0, rfl, hr0, hd0⟩ := open_deeds (okWide_slice Try.underlying52 (hval 0 52 v0 rfl rfl)) h0 hlt0 hsz (j := 0) rfl rfl
  obtain ⟨a1, b1, rfl, ba1, bb1⟩ := pair16_open (hval 1 73 v1 rfl rfl) h1
  refine (cuts_ok A0 c0 l0 a1 b1 W hr0 hd0 ba1 bb1).mono ?_
  rintro e W' ⟨rfl, hb⟩
  exact ⟨_, rfl, law_end rfl hW' hA' (by kernel_rfl) (by kernel_rfl) rfl rfl rfl hb⟩
theorem extentCuts_holds : Rows.ExtentCutsSaid :=
  OpenClaim.holds_of_wide 15 Try.f15 rfl rfl rfl rfl rfl rfl rfl ⟨rfl, rfl, rfl, rfl, rfl⟩ rfl rfl rfl rfl rfl (by kernel_rfl) Try.func15 (by kernel_rfl)
    (of_decide_eq_true (by kernel_rfl)) (by unfold Func.isWrapper; rw [if_neg (of_decide_eq_false (by kernel_rfl))]; exact ⟨rfl, rfl⟩)
    (fun os started H enc _ => extentCuts_lifted os started H enc)
end Go.Proofs.Ytacdohlhalnioaa
end

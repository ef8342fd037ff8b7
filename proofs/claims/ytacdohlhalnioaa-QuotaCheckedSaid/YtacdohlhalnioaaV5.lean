/- Joined: XQ13 XT5. -/
import Derived.Test.YtacdohlhalnioaaJ9
import Derived.Test.YtacdohlhalnioaaT9
/- A slice of small integers that came in, opened. -/
section
set_option linter.unusedVariables false
set_option linter.unusedSimpArgs false
set_option maxRecDepth 20000
namespace Go.Proofs.Ytacdohlhalnioaa
open Go.ChangeShapes Go.WideShapes Go.ChangeAt Go.RowKit

theorem open_ri {k : IntKind} {t e : TypeId} {B : Int} (hu : Try.prog.underlying t = some (.slice e)) (he : Try.prog.underlying e = some (.int k)) (hce : Try.prog.cellsOf e = 1) {H : Type} {enc : TypeId × Value → H} {W : World} {v : Value} {d : DataW H} {p : List MemPlace}
    (hok : ∃ a len cap, v = .slice a len cap) (h : DataW.Trod enc Try.prog W 0 (fun _ => true) true t v d p) (hB : ∀ z, (Lit.int k z).wf = true → 0 ≤ z ∧ z < B) :
    ∃ (A : Option Addr) (l : List Nat) (c : Nat), v = .slice A l.length c ∧ RI k W A l ∧ ∀ y ∈ l, ((y : Nat) : Int) < B := by
  obtain ⟨a, len, cap, rfl⟩ := hok
  obtain ⟨fuel, hf⟩ := h
  rcases open_ints hu he hce hf with ⟨hcs, hx⟩ | ⟨a, len', cap', zs, hcs, _, hl, hm, hz, hx, hcell, hwz⟩
  · simp [Value.cells] at hcs
    obtain ⟨rfl, rfl, rfl⟩ := hcs
    exact ⟨none, [], 0, rfl, fun h => absurd h (by simp), fun y hy => by cases hy⟩
  · simp [Value.cells] at hcs
    obtain ⟨rfl, rfl, rfl⟩ := hcs
    have hzl : len ≤ zs.length := by rw [hz]; simpa using hl
    have hlen : ((zs.take len).map Int.toNat).length = len := by rw [List.length_map, List.length_take]; omega
    refine ⟨some a, (zs.take len).map Int.toNat, cap, by rw [hlen], fun h0 => ?_, fun y hy => ?_⟩
    · rw [hlen] at h0
      have hc0 := hcell 0 (by omega)
      obtain ⟨b, off, spot⟩ := a
      have hspot : spot = none := by simpa [Addr.add] using World.cell?_spot hc0
      subst hspot
      refine ⟨b, off, rfl, fun j y hj => ?_⟩
      have hjl : j < len := by
        have := (List.getElem?_eq_some_iff.1 hj).1
        omega
      have hci := hcell j (by omega)
      have e : (⟨b, off, none⟩ : Addr).add j = ⟨b, off + j, none⟩ := by
        by_cases h0 : j = 0
        · subst h0; simp [Addr.add]
        · simp [Addr.add, h0]
      rw [e] at hci
      rw [hci]
      have hjz : j < zs.length := by omega
      have hw := (hB _ (hwz _ (List.getElem_mem hjz))).1
      rw [List.getElem?_map, List.getElem?_take_of_lt hjl, List.getElem?_eq_getElem hjz] at hj
      simp only [Option.map_some, Option.some.injEq] at hj
      rw [List.getD_eq_getElem?_getD, List.getElem?_eq_getElem hjz, Option.getD_some, ← hj, Int.toNat_of_nonneg hw]
    · obtain ⟨z, hz1, rfl⟩ := List.mem_map.1 hy
      have hw := hB _ (hwz z (List.mem_of_mem_take hz1))
      omega
theorem qchecked_i (A Ao Al : Option Addr) (c co cl : Nat) (v : Vol) (lo ll : List Nat) (w : World) (hr : RS w A v) (hro : RI .u8 w Ao lo) (hrl : RI .u16 w Al ll) (ho : ∀ y ∈ lo, ((y : Nat) : Int) < 256) (hl : ∀ y ∈ ll, ((y : Nat) : Int) < 65536) :
    Calls Try.prog 11 #[.slice A v.length c, .slice Ao lo.length co, .slice Al ll.length cl] w fun e w' => e = .returned (.bool true) ∧ Below w.heap.size w w' :=
  qchecked_ok A Ao Al c co cl v lo ll w hr hro hrl (fun y hy => by have := ho y hy; omega) (fun y hy => by have := hl y hy; omega)
end Go.Proofs.Ytacdohlhalnioaa
end

/-
  The statement on quota's check, proved: for every volume and every row of owners and limits: a volume on which nobody has more than may be is one still. No condition: whatever comes in.
-/
section
set_option linter.unusedSimpArgs false
set_option linter.unusedVariables false
namespace Go.Proofs.Ytacdohlhalnioaa
open Go.ChangeShapes Go.WideShapes Go.ChangeAt Go.RowKit

set_option maxRecDepth 100000 in
theorem quotaChecked_lifted (os : Os) (started : os.Started) (H : Type) (enc : TypeId × Value → H) :
    ReturnsInHanded {} Try.checked os 11 .any (Rows.quotaCheckedSpec.pre6 enc Try.prog Try.f11 Rows.quotaCheckedRow.domain false) (Rows.quotaCheckedSpec.post enc Try.prog Try.f11 false true false false) := by
  refine returnsInHanded_of_change_sized (C := Try.checked) Try.own started (by kernel_rfl) Try.func11
    (ChangeSpec.witness6 (enc := enc) (C := Try.checked) false ⟨#[], #[.slice none 0 0, .slice none 0 0, .slice none 0 0], []⟩ 8 (by kernel_rfl) (by kernel_rfl) (by kernel_rfl) (by kernel_rfl)) ?_
  intro W base args ds gs before hval0 hW _ hsz0 _
  have hsz : (DataW.weightsEach Try.prog (Try.f11.params.toList ++ Rows.quotaCheckedSpec.plain.varTypes Try.prog) (ds ++ gs)).all (· ≤ reachBytes) = true := hsz0
  clear hsz0
  have hval : ∀ (j : Nat) t v, Try.f11.params[j]? = some t → args[j]? = some v → Value.okWide Try.prog W .any base t v := hval0
  have hW' := hW
  obtain ⟨p, q, hA0, hV, rfl, hfz, hnd⟩ := hW
  have hA : DataW.TrodAll enc Try.prog W 0 (fun _ => true) true Try.f11.params.toList args.toList ds p := hA0
  have hA' := hA
  rw [Try.params11] at hA hval hsz
  obtain ⟨v0, v1, v2, d0, d1, d2, p0, p1, p2, rfl, rfl, rfl, h0, h1, h2⟩ := trodAll_three hA
  obtain ⟨rfl, rfl⟩ := trodVars_none hV
  clear hA0 hval0
  simp only [List.append_nil] at hW'
  have hlt : ∀ x ∈ p0, x.block < W.heap.size := fun x hx => by simpa using hW'.lt x (by simp [hx])
  obtain ⟨A0, l0, c0, rfl, hr0⟩ := open_vol (okWide_slice Try.underlying22 (hval 0 22 v0 rfl rfl)) h0 hlt hsz (j := 0) rfl rfl
  obtain ⟨A1, l1, c1, rfl, hr1, hb1⟩ := open_ri (B := 256) Try.underlying62 Try.underlying5 (by kernel_rfl) (okWide_slice Try.underlying62 (hval 1 62 v1 rfl rfl)) h1 (fun z hz => by have := bounds_u8 hz; omega)
  obtain ⟨A2, l2, c2, rfl, hr2, hb2⟩ := open_ri (B := 65536) Try.underlying63 Try.underlying37 (by kernel_rfl) (okWide_slice Try.underlying63 (hval 2 63 v2 rfl rfl)) h2 (fun z hz => by have := bounds_u16 hz; omega)
  refine (qchecked_i A0 A1 A2 c0 c1 c2 l0 l1 l2 W hr0 hr1 hr2 hb1 hb2).mono ?_
  rintro e W' ⟨rfl, hb⟩
  exact ⟨_, rfl, law_end rfl hW' hA' (by kernel_rfl) (by kernel_rfl) rfl rfl rfl hb⟩
theorem quotaChecked_holds : Rows.QuotaCheckedSaid :=
  OpenClaim.holds_of_wide 11 Try.f11 rfl rfl rfl rfl rfl rfl rfl ⟨rfl, rfl, rfl, rfl, rfl⟩ rfl rfl rfl rfl rfl (by kernel_rfl) Try.func11 (by kernel_rfl)
    (of_decide_eq_true (by kernel_rfl)) (by unfold Func.isWrapper; rw [if_neg (of_decide_eq_false (by kernel_rfl))]; exact ⟨rfl, rfl⟩)
    (fun os started H enc _ => quotaChecked_lifted os started H enc)
end Go.Proofs.Ytacdohlhalnioaa
end

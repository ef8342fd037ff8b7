/- Joined: XT0. -/
import Derived.Test.YtacdohlhalnioaaRows
import Derived.Test.YtacdohlhalnioaaJ1
import Derived.ProofKit
import Derived.SizedLaws
import Derived.SliceStrings
import Derived.OpenShut
/- What every law's row wants: the end; a slice of strings, opened as a volume. -/
section
set_option linter.unusedSimpArgs false
set_option linter.unusedVariables false
set_option maxRecDepth 20000
namespace Go.Proofs.Ytacdohlhalnioaa
open Go.ChangeShapes Go.WideShapes Go.ChangeAt Go.RowKit

theorem Try.own : ownKnob Try.prog.godebug = none := by kernel_rfl
theorem Try.laidOut : laidOutB Try.prog = true := by kernel_rfl
theorem Try.cellsStr : Try.prog.cellsOf 9 = 1 := by kernel_rfl
theorem Try.bytesStr : Try.prog.bytesOf 9 = 16 := by kernel_rfl
theorem trodAll_below {H : Type} {enc : TypeId × Value → H} {W W' : World} (hb : Below W.heap.size W W') (ts : List TypeId) :
    ∀ {vs : List Value} {ds : List (DataW H)} {p : List MemPlace}, (∀ t ∈ ts, Try.prog.readableRec t = true ∧ t < Try.prog.types.size) → DataW.TrodAll enc Try.prog W 0 (fun _ => true) true ts vs ds p → (∀ x ∈ p, x.block < W.heap.size) →
      DataW.TrodAll enc Try.prog W' 0 (fun b => decide (b < W.heap.size)) true ts vs ds p := by
  have hl := Try.laidOut
  generalize Try.prog = P at *
  induction ts with
  | nil =>
    intro vs ds p _ h _
    obtain ⟨rfl, rfl, rfl⟩ := trodAll_nil h
    exact trodAll_mk0
  | cons t ts ih =>
    intro vs ds p ht h hlt
    obtain ⟨v, vs', d, ds', p1, q1, rfl, rfl, rfl, h1, h2⟩ := trodAll_cons h
    have ht1 := ht t (List.mem_cons_self ..)
    exact trodAll_cons_mk (Below.trod hl ht1.1 ht1.2 h1 hb (fun x hx => hlt x (List.mem_append_left _ hx))) (ih (fun t h => ht t (List.mem_cons_of_mem _ h)) h2 (fun x hx => hlt x (List.mem_append_right _ hx)))
theorem read_all_of {P : Program} {ts : List TypeId} (h : (ts.all fun t => P.readableRec t && decide (t < P.types.size)) = true) : ∀ t ∈ ts, P.readableRec t = true ∧ t < P.types.size := by
  intro t ht
  have := List.all_eq_true.1 h t ht
  rw [Bool.and_eq_true, decide_eq_true_eq] at this
  exact this
theorem law_end {H : Type} {enc : TypeId × Value → H} {fn : Func} {s : ChangeSpec} {fresh handsOn : Bool} {W W' : World} {args : Array Value} {ds : List (DataW H)} {p : List MemPlace}
    (hvs : s.vars = []) (hW : DataW.Whole enc Try.prog fn.params.toList s.vars false W args.toList ds [] p) (hA : DataW.TrodAll enc Try.prog W 0 (fun _ => true) true fn.params.toList args.toList ds p)
    (hread : (fn.params.toList.all fun t => Try.prog.readableRec t && decide (t < Try.prog.types.size)) = true) (hrt : fn.resultTypes = #[4])
    (h1 : (s.fn H (ds ++ [])).results = [.lit (.bool true)]) (h2 : (s.fn H (ds ++ [])).args = ds) (h3 : (s.fn H (ds ++ [])).vars = []) (hb : Below W.heap.size W W') :
    s.post enc Try.prog fn false fresh handsOn false W args (.bool true) W' := by
  have hlt : ∀ x ∈ p, x.block < W.heap.size := fun x hx => by simpa using hW.lt x hx
  refine ⟨_, _, _, [], p, [], hW, ?_, ?_, ?_, hb.frame _, fun h => by cases h⟩
  · rw [h1, hrt]
    exact trodAll_mk1 (shut_bool Try.underlying4 true)
  · rw [h2]
    exact trodAll_below hb _ (read_all_of hread) hA hlt
  · rw [h3, hvs]
    rfl
/-- A slice of strings that came in reads as a volume. -/
theorem open_vol {H : Type} {enc : TypeId × Value → H} {W : World} {v : Value} {d : DataW H} {p : List MemPlace} {ts : List TypeId} {ds : List (DataW H)} {j : Nat}
    (hok : ∃ a len cap, v = .slice a len cap) (h : DataW.Trod enc Try.prog W 0 (fun _ => true) true 22 v d p) (hp : ∀ x ∈ p, x.block < W.heap.size)
    (hsz : (DataW.weightsEach Try.prog ts ds).all (· ≤ reachBytes) = true) (ht : ts[j]? = some 22) (hd : ds[j]? = some d) :
    ∃ (A : Option Addr) (l : Vol) (c : Nat), v = .slice A l.length c ∧ RS W A l := by
  obtain ⟨a, len, cap, rfl⟩ := hok
  obtain ⟨fuel, hf⟩ := h
  rcases open_strings Try.underlying22 Try.underlying9 Try.cellsStr hf with ⟨hcs, hx⟩ | ⟨a, len', cap', ss, hcs, _, hl, hm, hz, hx, hcell, hws⟩
  · simp [Value.cells] at hcs
    obtain ⟨rfl, rfl, rfl⟩ := hcs
    exact ⟨none, [], 0, rfl, by simp, fun h => absurd h (by simp)⟩
  · simp [Value.cells] at hcs
    obtain ⟨rfl, rfl, rfl⟩ := hcs
    simp only [Prod.mk.injEq] at hx
    obtain ⟨rfl, rfl⟩ := hx
    have hss : len ≤ ss.length := by rw [hz]; simpa using hl
    have hw := sized_slice hsz ht hd Try.underlying22
    rw [Try.bytesStr] at hw
    simp only [Go.ChangeShapes.strs, List.length_map, List.length_take, List.length_drop, reachBytes] at hw
    have hlen : ((ss.take len).map fun s => s.data.toList).length = len := by rw [List.length_map, List.length_take]; omega
    refine ⟨some a, (ss.take len).map fun s => s.data.toList, cap, by rw [hlen], by rw [hlen]; omega, fun h0 => ?_⟩
    rw [hlen] at h0 ⊢
    have hc0 := hcell 0 (by omega)
    obtain ⟨b, off, spot⟩ := a
    have hspot : spot = none := by simpa [Addr.add] using World.cell?_spot hc0
    subst hspot
    refine ⟨b, off, rfl, fun i hi => ?_⟩
    have hci := hcell i (by omega)
    have e : (⟨b, off, none⟩ : Addr).add i = ⟨b, off + i, none⟩ := by
      by_cases h0 : i = 0
      · subst h0; simp [Addr.add]
      · simp [Addr.add, h0]
    rw [e] at hci
    rw [hci, bk]
    have hi2 : i < ss.length := by omega
    simp [List.getD_eq_getElem?_getD, hi, hi2, mk_of]
end Go.Proofs.Ytacdohlhalnioaa
end

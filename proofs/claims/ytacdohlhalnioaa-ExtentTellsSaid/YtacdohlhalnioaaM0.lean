/- How volumes and strings lie in memory: words for the contracts, without the program. -/
import Derived.WalkKit
import Derived.Lib.Hide
import Derived.WalkSpells
import Derived.WalkLawsBesides
import Derived.Test.YtacdohlhalnioaaS0
namespace Go.Proofs.Ytacdohlhalnioaa
open Go.RowKit

/-- The slice at A reads as these strings. -/
def RS (w : World) (A : Option Addr) (l : Vol) : Prop :=
  l.length ≤ 8796093022208 ∧ (0 < l.length → ∃ b o, A = some ⟨b, o, none⟩ ∧ ∀ j : Nat, j < l.length → w.cell? ⟨b, o + j, none⟩ = some (.string (mk (bk l j))))
theorem RS.open_ {w : World} {A : Option Addr} {l : Vol} (h : RS w A l) (h0 : 0 < l.length) : ∃ b o, A = some ⟨b, o, none⟩ ∧ b < w.heap.size ∧ ∀ j : Nat, j < l.length → w.cell? ⟨b, o + j, none⟩ = some (.string (mk (bk l j))) := by
  obtain ⟨b, o, e, hc⟩ := h.2 h0
  exact ⟨b, o, e, World.block_lt_of_cell? w _ (hc 0 h0), hc⟩
theorem RS.below {w w' : World} {A : Option Addr} {l : Vol} (h : RS w A l) (hb : Below w.heap.size w w') : RS w' A l :=
  ⟨h.1, fun h0 => by
    obtain ⟨b, o, e, hc⟩ := h.2 h0
    exact ⟨b, o, e, fun j hj => (hb.cell (World.block_lt_of_cell? w _ (hc j hj))).trans (hc j hj)⟩⟩
theorem ret_int {k : IntKind} {a b : Int} (h : a = b) : Ending.returned (.int k a) = .returned (.int k b) := by rw [h]
theorem ret_bool {a b : Bool} (h : a = b) : Ending.returned (.bool a) = .returned (.bool b) := by rw [h]
theorem ret_str {a b : Blk} (h : a = b) : Ending.returned (.string (mk a)) = .returned (.string (mk b)) := by rw [h]
theorem bk_get (v : Vol) (i : Nat) (h : i < v.length) : v[i] = bk v i := by simp [bk, h]
theorem mk_bytes (l : Blk) : (mk l).toList = l := by rw [ByteArray.toList_eq]; rfl
attribute [simp] mk_getElem mk_fold mk_bytes
end Go.Proofs.Ytacdohlhalnioaa

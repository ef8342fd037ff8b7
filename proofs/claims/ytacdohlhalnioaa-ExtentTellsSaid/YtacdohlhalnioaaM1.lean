/- Rows of strings that a call has made, and their cells: without the program. -/
import Derived.Test.YtacdohlhalnioaaM0
import Derived.Laws.CopyOwn
import Derived.Maps.AppendAt
import Derived.Test.YtacdohlhalnioaaB0
namespace Go.Proofs.Ytacdohlhalnioaa
open Go.RowKit

theorem below_und {w w' : World} (h : Below w.drew.heap.size w.drew w') : Below w.heap.size w w' := ⟨h.os, h.tape, h.output, h.size, h.block⟩
/-- A block of strings that may be written. -/
def VB (T : TypeId) (w : World) (g : Nat) (v : Vol) : Prop := ∃ cur : Array Value, w.heap[g]? = some (.cells cur T (0, 0)) ∧ ∀ j, j < v.length → cur[j]? = some (.string (mk (bk v j)))
def strs (v : Vol) : List Value := v.map fun s => .string (mk s)
theorem strs_length (v : Vol) : (strs v).length = v.length := by simp [strs]
theorem strs_get (v : Vol) (j : Nat) (h : j < v.length) : (strs v)[j]? = some (.string (mk (bk v j))) := by simp [strs, bk, h]
theorem strs_one (v : Vol) : ∀ x ∈ strs v, x.oneCell' = true := by
  intro x hx
  simp only [strs, List.mem_map] at hx
  obtain ⟨b, _, rfl⟩ := hx
  rfl
theorem bk_set_same (v : Vol) (i : Nat) (s : Blk) (h : i < v.length) : bk (v.set i s) i = s := by simp [bk, h]
theorem bk_set_other (v : Vol) (i j : Nat) (s : Blk) (h : i ≠ j) : bk (v.set i s) j = bk v j := by simp [bk, List.getD_eq_getElem?_getD, h]
theorem VB.cell {T : TypeId} {w : World} {g : Nat} {v : Vol} (h : VB T w g v) (j : Nat) (hj : j < v.length) : w.cell? ⟨g, j, none⟩ = some (.string (mk (bk v j))) := by
  obtain ⟨cur, hg, hc⟩ := h
  simp [World.cell?, hg, hc j hj]
theorem VB.free {T : TypeId} {w : World} {g : Nat} {v : Vol} (h : VB T w g v) (j : Nat) : w.frozen? ⟨g, j, none⟩ = false := by
  obtain ⟨cur, hg, hc⟩ := h
  simp [World.frozen?, hg]
theorem VB.lt {T : TypeId} {w : World} {g : Nat} {v : Vol} (h : VB T w g v) : g < w.heap.size := by
  obtain ⟨cur, hg, hc⟩ := h
  exact (Array.getElem?_eq_some_iff.1 hg).1
theorem VB.keep {T : TypeId} {w w' : World} {g : Nat} {v : Vol} (h : VB T w g v) (hb : Below w.heap.size w w') : VB T w' g v := by
  have hl := h.lt
  obtain ⟨cur, hg, hc⟩ := h
  exact ⟨cur, (hb.block g hl).trans hg, hc⟩
theorem VB.same {T : TypeId} {w w' : World} {g : Nat} {v : Vol} (h : VB T w g v) (hb : w'.heap[g]? = w.heap[g]?) : VB T w' g v := by
  obtain ⟨cur, hg, hc⟩ := h
  exact ⟨cur, hb.trans hg, hc⟩
theorem VB.set {T : TypeId} {w : World} {g : Nat} {v : Vol} (h : VB T w g v) (i : Nat) (s : Blk) (hi : i < v.length) : VB T (w.setCell ⟨g, i, none⟩ (.string (mk s))) g (v.set i s) := by
  obtain ⟨cur, hg, hc⟩ := h
  have his := hc i hi
  refine ⟨cur.setIfInBounds i (.string (mk s)), by simp [World.setCell, Array.getElem?_modify, hg], fun j hj => ?_⟩
  rw [List.length_set] at hj
  have hcs : i < cur.size := by
    rcases Nat.lt_or_ge i cur.size with h | h
    · exact h
    · rw [Array.getElem?_eq_none h] at his; cases his
  by_cases e : i = j
  · subst e
    rw [bk_set_same v i s hi]
    simp [Array.getElem?_setIfInBounds, hcs]
  · rw [bk_set_other v i j s e, Array.getElem?_setIfInBounds_ne e]
    exact hc j hj
theorem VB.other {T : TypeId} {w : World} {g k i : Nat} {v : Vol} {u : Value} (h : VB T w g v) (hne : g ≠ k) : VB T (w.setCell ⟨k, i, none⟩ u) g v :=
  h.same (Below.heap_setCell w ⟨k, i, none⟩ u g hne)
theorem VB.rs {T : TypeId} {w : World} {g : Nat} {v : Vol} (h : VB T w g v) (hl : v.length ≤ 8796093022208) : RS w (some ⟨g, 0, none⟩) v :=
  ⟨hl, fun _ => ⟨g, 0, rfl, fun j hj => by rw [Nat.zero_add]; exact h.cell j hj⟩⟩
theorem VB.of_own {T : TypeId} {w : World} {base n : Nat} {u : Value} {v : Vol} (h : w.ownsRow base T 1 u n (strs v)) (hn : v.length = n) (h0 : 0 < n) :
    ∃ g cap, u = .slice (some ⟨g, 0, none⟩) n cap ∧ base ≤ g ∧ VB T w g v := by
  rcases h.2 with ⟨_, rfl⟩ | ⟨g, cap, cur, rfl, hb, hg, hnc, hcm, hcs, ht⟩
  · omega
  · refine ⟨g, cap, rfl, hb, cur, hg, fun j hj => ?_⟩
    have := strs_get v j hj
    rw [← ht, Nat.mul_one, List.getElem?_take_of_lt (by omega)] at this
    simpa using this
theorem strs_zs (s : List ByteArray) (v : Vol) (h : s = v.map mk) : s.map Value.string = strs v := by subst h; simp [strs]
theorem splice_all (n : Nat) (cur cs : List Value) (h : cur.length = n) (h' : cs.length = n) : splice cur 0 cs = cs := by
  simp only [splice, List.take_zero, List.nil_append, Nat.zero_add]
  rw [List.drop_of_length_le (by omega), List.append_nil]
variable {P : Program}
theorem make_str (t e : TypeId) (i : TypeInfo) (ht : P.underlying t = some (.slice e)) (hi : P.info? e = some i) (hz : i.zero = some (.string (mk []))) (hs : i.size = 1) (hb : i.bytes = 16) (m : Nat) (hm : m ≤ 8796093022208) (W : World) :
    (Instr.makeSlice t (.int .i64 (m : Int)) (.int .i64 (m : Int))).run P W = .ok (.slice (some ⟨W.heap.size, 0, none⟩) m m) (W.alloc (.cells (strs (List.replicate m [])).toArray e)) := by
  rw [run_make W t e i (.string (mk [])) ht hi hz .i64 .i64 m m (by omega) (by omega) (by rw [hb]; omega) (by omega)]
  simp only [hs, Int.toNat_natCast, Nat.mul_one]
  congr 3
  simp only [madeCells, Value.cells, strs]
  apply Array.ext
  · simp
  · intro j h1 h2
    simp [Nat.mod_one]
end Go.Proofs.Ytacdohlhalnioaa

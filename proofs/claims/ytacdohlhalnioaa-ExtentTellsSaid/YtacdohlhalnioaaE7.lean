/- Contract: the bytes of a file. -/
import Derived.Test.YtacdohlhalnioaaE6
set_option linter.unusedVariables false
set_option maxRecDepth 20000
namespace Go.Proofs.Ytacdohlhalnioaa
open Go.RowKit
attribute [local go_sem] Oper.semAt_some

abbrev IsB (b : Nat) (l : Blk) (w : World) : Prop := Lib.IsBuilderF 87 5 b b (Lib.byteCells l) w
theorem wstr_ok (b : Nat) (l t : Blk) (w : World) (h : IsB b l w) (hlen : l.length + t.length ≤ 140737488355328) (hb : b ≤ w.heap.size) :
    Calls Try.prog 60 #[.pointer (some ⟨b, 0, none⟩), .string (mk t)] w fun e w' => (∃ x, e = .returned x) ∧ IsB b (l ++ t) w' ∧ Below b w w' ∧ Lib.OthersKept 5 (some b) w w' := by
  refine (Any.Builder_WriteString_k Try.bw166 Try.Builder_Extra_105 b b (Lib.byteCells l) (mk t) w h (by simpa [Lib.byteCells] using hlen) hb).mono ?_
  rintro e w' ⟨rfl, h1, h2, h3⟩
  refine ⟨⟨_, rfl⟩, .inr ?_, h2, h3⟩
  have e : Lib.byteCells (l ++ t) = Lib.byteCells l ++ Lib.strCells (mk t) := by simp [Lib.byteCells, Lib.strCells]
  rw [e]
  exact h1
theorem bstr_ok (b : Nat) (l : Blk) (w : World) (h : IsB b l w) (hb : b ≤ w.heap.size) :
    Calls Try.prog 62 #[.pointer (some ⟨b, 0, none⟩)] w fun e w' => e = .returned (.string (mk l)) ∧ Below b w w' ∧ Lib.OthersKept 5 (some b) w w' :=
  (Try.Builder_String_any_k b b l w h hb).mono fun e w' h => ⟨h.1, h.2.2⟩
theorem isB_new (b : Nat) (w : World) (h : w.heap[b]? = some (.cells #[.pointer none, .slice none 0 0] 87 (0, 0))) : IsB b [] w :=
  .inl ⟨Nat.le_refl _, .slice none 0 0, h, ⟨rfl, .inl ⟨rfl, rfl⟩⟩, by simp [Value.ownBlock]⟩
theorem bAt_grown {T e : TypeId} {B b : Nat} {p : Value} {bs : List Value} {W W' : World} {row : Option Nat} (h : Lib.BuilderAtF T e B b p bs W) (hg : W.grownBy W' row) (hr : ∀ r, row = some r → ∃ o : Obj, W.heap[r]? = some o ∧ o.isCells = false) : Lib.BuilderAtF T e B b p bs W' := by
  obtain ⟨hB, u, hb, hown, hne⟩ := h
  refine ⟨hB, u, cells_grown hb hg hr, ⟨hown.1, ?_⟩, hne⟩
  rcases hown.2 with h0 | ⟨g, cap, cur, fz, h1, h2, h3, h4⟩
  · exact .inl h0
  · exact .inr ⟨g, cap, cur, fz, h1, h2, cells_grown h3 hg hr, h4⟩
theorem isB_grown {b : Nat} {l : Blk} {W W' : World} {row : Option Nat} (h : IsB b l W) (hg : W.grownBy W' row) (hr : ∀ r, row = some r → ∃ o : Obj, W.heap[r]? = some o ∧ o.isCells = false) : IsB b l W' :=
  h.elim (fun x => .inl (bAt_grown x hg hr)) (fun x => .inr (bAt_grown x hg hr))
theorem isB_below {b : Nat} {l : Blk} {W W' : World} (h : IsB b l W) (hb : Below W.heap.size W W') : IsB b l W' :=
  isB_grown h ⟨hb.os, hb.tape, hb.output, hb.size, fun q hq _ => hb.block q hq⟩ (row := none) (fun r e => by cases e)

/-- The bytes of the block k. -/
def blkAt (d L : Nat) (v : Vol) (x : Ino) (k : Nat) : Blk := if atN d L v x k = 0 then zs 128 else bk v (atN d L v x k)
def catTo (d L : Nat) (v : Vol) (x : Ino) (l : List Nat) : Blk := l.flatMap fun k => blkAt d L v x k
/-- All bytes of a file. -/
def contV (v : Vol) (n : Nat) : Blk := (catTo (dataV v) v.length v (inoV v n) (List.range (needS (sizeX (inoV v n))))).take (sizeX (inoV v n))
def readV (v : Vol) (n off sz : Nat) : Blk := ((contV v n).drop off).take sz
theorem atN_lt {d L : Nat} {v : Vol} {x : Ino} {k : Nat} (h : atN d L v x k ≠ 0) : d ≤ atN d L v x k ∧ atN d L v x k < L := by
  unfold atN at h ⊢
  split
  · rename_i hg
    simpa [goodN] using hg
  · rename_i hg
    rw [if_neg hg] at h
    exact absurd rfl h
theorem blkAt_len {d L : Nat} {v : Vol} {x : Ino} (hs : ∀ j, j < L → (bk v j).length = 128) (k : Nat) : (blkAt d L v x k).length = 128 := by
  unfold blkAt
  split
  · simp
  · rename_i h
    exact hs _ (atN_lt h).2
theorem catTo_len {d L : Nat} {v : Vol} {x : Ino} (hs : ∀ j, j < L → (bk v j).length = 128) (l : List Nat) : (catTo d L v x l).length = 128 * l.length := by
  induction l with
  | nil => rfl
  | cons k l ih =>
    have := blkAt_len (d := d) (x := x) hs k
    simp only [catTo, List.flatMap_cons, List.length_append, List.length_cons] at ih ⊢
    omega
end Go.Proofs.Ytacdohlhalnioaa

/- Ranges over a function: the wide fence, a region in a round that draws its order, what a round keeps. Without the program. -/
import Derived.RangeFuncNested
import Derived.RangeFuncBound
import Derived.RangeFuncBox
import Derived.RangeFuncCalls
import Derived.RangeFuncLeaves
import Derived.Shelf.Abstract
import Derived.WalkKit
import Derived.OwnWalkIn
import Derived.TacticsInMore
import Derived.LoopNIn
import Derived.LoopIn
import Derived.Deep.RegionHeld3
set_option linter.unusedVariables false
namespace Go.Proofs.Ytacdohlhalnioaa
open Go.RowKit

section
variable {P : Program} {ops : Array Oper} {Q : Exit → Act → World → Prop} {md : Region.Mode} {S : World → Prop}
theorem rowsIn_wide {n : Nat} {row : String} {args : Array Value} {w : World} {R : Value → World → Prop} (h : Rows P row args w R) (l : Nat) : RowsIn (Fence.wide.inRound l) n P row args w R :=
  fun c cs _ => let ⟨v, w', r, s⟩ := h c cs; ⟨v, w', r, stepsIn_wide.2 s⟩
theorem uponIn_of_upon {o : Oper} {a : Act} {K : Act → World → Prop} {r : Result Next} (l n : Nat) (h : o.upon P a K Q r) : o.uponIn (Fence.wide.inRound l) n P a K Q r := by
  cases r with
  | ok x w' =>
    cases x <;> simp only [Oper.upon, Oper.uponIn] at h ⊢
    case value => exact h
    case skip => exact h
    case defer => exact h
    case enter f args =>
      refine ⟨fun h => by simp [Fence.wide] at h, CallsIn.inRound l (callsIn_wide.2 (h.mono ?_))⟩
      intro e w'' he
      cases e <;> exact he
    case row => exact ⟨fun h => by simp [Fence.wide] at h, rowsIn_wide h l⟩
  | halt x w' =>
    cases x <;> simp only [Oper.upon, Oper.uponIn] at h ⊢
    case panic => exact h
theorem wpOpIn_of_wpOp {i : Nat} {K : Act → World → Prop} {a : Act} {w : World} (l n : Nat) (hnd : ∀ (j : Nat) (o : Oper) c, ops[j]? = some o → o.op ≠ .defer c) (hq : ∀ a w, ¬ Q .outgrown a w)
    (h : wpOp P ops Q i K a w) : wpOpIn (Fence.wide.inRound l) n P ops Q i K a w := by
  unfold wpOp at h
  unfold wpOpIn
  cases ho : ops[i]? with
  | none => rw [ho] at h; exact h
  | some o =>
    rw [ho] at h
    simp only at h ⊢
    split
    · rename_i hw
      rw [if_pos hw] at h
      rcases h with h | ⟨_, a', w', h⟩
      · refine ⟨fun f _ => trivial, ?_⟩
        rw [Oper.semAt_eq _ _ _ (fun c => hnd i o c ho)]
        exact uponIn_of_upon l n h
      · exact absurd h (hq _ _)
    · rename_i hw
      rw [if_neg hw] at h
      exact ⟨fun f _ => trivial, h⟩
theorem wpAnyIn_of_wpAny (l n : Nat) (hnd : ∀ (j : Nat) (o : Oper) c, ops[j]? = some o → o.op ≠ .defer c) (hq : ∀ a w, ¬ Q .outgrown a w) :
    ∀ (fuel : Nat) (listed : Array Bool) (a : Act) (w : World), wpAny P md ops Q fuel listed a w → wpAnyIn (Fence.wide.inRound l) n P md ops Q fuel listed a w
  | 0, _, _, _, h => h
  | fuel + 1, listed, a, w, h => ⟨h.1, fun i hi => wpOpIn_of_wpOp l n hnd hq (wpOp_mono (fun a' w' h' => wpAnyIn_of_wpAny l n hnd hq fuel _ a' w' h') (h.2 i hi))⟩
def noDefer (ops : Array Oper) : Bool := ops.all fun o => match o.op with | .defer _ => false | _ => true
theorem noDefer_spec (h : noDefer ops = true) : ∀ (j : Nat) (o : Oper) c, ops[j]? = some o → o.op ≠ .defer c := by
  intro j o c ho hc
  simp only [noDefer, Array.all_eq_true] at h
  obtain ⟨hj, e⟩ := Array.getElem?_eq_some_iff.1 ho
  have := h j hj
  rw [e, hc] at this
  cases this
/-- A region in a round that draws its order: S is shown of the world behind the draw, then 'wpAnyH' as outside of a round. -/
theorem region_in_round (S : World → Prop) {id n l : Nat} {a : Act} {w : World} (hm : P.follows .mixedOrders = true) (hd : noDefer ops = true) (hq : ∀ a w, ¬ Q .outgrown a w) (hS : S w.drew)
    (h : S w.drew → wpAnyH P .any ops Q S ops.size (Array.replicate ops.size false) a w.drew) : (Code.region id ops true).wpIn (Fence.wide.inRound l) n P Q a w :=
  wpIn_region_any hm (wpAnyIn_of_wpAny l n (noDefer_spec hd) hq _ _ _ _ (wpAny_of_held _ _ _ _ (h hS)))
end

/-- Every block of cells, but those of F, is as it was. -/
def KpC (F : Nat → Prop) (W W' : World) : Prop := ∀ k c t fz, W.heap[k]? = some (.cells c t fz) → ¬ F k → W'.heap[k]? = some (.cells c t fz)
theorem KpC.refl (F : Nat → Prop) (W : World) : KpC F W W := fun _ _ _ _ h _ => h
theorem KpC.trans {F : Nat → Prop} {A B C : World} (h : KpC F A B) (k : KpC F B C) : KpC F A C := fun i c t fz hi hF => k i c t fz (h i c t fz hi hF) hF
theorem KpC.putObj {F : Nat → Prop} (W : World) (l : Nat) (o o' : Obj) (h : W.heap[l]? = some o) (ho : o.isCells = false) : KpC F W (W.putObj l o') := by
  intro k c t fz hk _
  by_cases e : k = l
  · subst e
    rw [h] at hk
    injection hk with hk
    subst hk
    simp [Obj.isCells] at ho
  · rw [World.putObj_heap_other e]
    exact hk
theorem KpC.of_below {F : Nat → Prop} {W W' : World} (h : Below W.heap.size W W') : KpC F W W' := fun k c t fz hk _ => (h.block k (Array.getElem?_eq_some_iff.1 hk).1).trans hk
theorem KpC.alloc {F : Nat → Prop} {W W' : World} (h : KpC F W W') (o : Obj) : KpC F W (W'.alloc o) := h.trans (KpC.of_below ((Below.refl _ _).alloc (Nat.le_refl _) o))
theorem KpC.drew {F : Nat → Prop} {W W' : World} (h : KpC F W W') : KpC F W W'.drew := h
theorem KpC.setCell {F : Nat → Prop} {W W' : World} (h : KpC F W W') {k i : Nat} (hF : F k) (u : Value) : KpC F W (W'.setCell ⟨k, i, none⟩ u) := by
  intro j c t fz hj hn
  have := h j c t fz hj hn
  rw [Below.heap_setCell _ _ _ _ (fun e => hn (by rw [e]; exact hF))]
  exact this

theorem blk_set {w : World} {g : Nat} {t : TypeId} {cs : Array Value} {fz : Nat × Nat} (h : w.heap[g]? = some (.cells cs t fz)) (i : Nat) (u : Value) : (w.setCell ⟨g, i, none⟩ u).heap[g]? = some (.cells (cs.setIfInBounds i u) t fz) := by
  simp [World.setCell, Array.getElem?_modify, h]
theorem blk_set_other {w : World} {g k : Nat} {o : Obj} (h : w.heap[k]? = some o) (hne : k ≠ g) (i : Nat) (u : Value) : (w.setCell ⟨g, i, none⟩ u).heap[k]? = some o :=
  (Below.heap_setCell w ⟨g, i, none⟩ u k hne).trans h
theorem cell_at {w : World} {g : Nat} {t : TypeId} {cs : Array Value} {fz : Nat × Nat} (h : w.heap[g]? = some (.cells cs t fz)) (i : Nat) : w.cell? ⟨g, i, none⟩ = cs[i]? := by
  simp [World.cell?, h]

theorem heap_alloc_at (w : World) (o : Obj) (k : Nat) (h : k = w.heap.size) : (w.alloc o).heap[k]? = some o := by subst h; exact heap_alloc_new w o
theorem heap_alloc_lt (w : World) (o o' : Obj) (k : Nat) (h : w.heap[k]? = some o') : (w.alloc o).heap[k]? = some o' := (Below.heap_alloc w o k (Array.getElem?_eq_some_iff.1 h).1).trans h
theorem alloc4 (w : World) (o0 o1 o2 o3 : Obj) (W : World) (h : (((w.alloc o0).alloc o1).alloc o2).alloc o3 = W) :
    W.heap[w.heap.size]? = some o0 ∧ W.heap[w.heap.size + 1]? = some o1 ∧ W.heap[w.heap.size + 2]? = some o2 ∧ W.heap[w.heap.size + 3]? = some o3 ∧ W.heap.size = w.heap.size + 4 ∧ Below w.heap.size w W := by
  subst h
  refine ⟨?_, ?_, ?_, ?_, ?_, ?_⟩
  · exact heap_alloc_lt _ _ _ _ (heap_alloc_lt _ _ _ _ (heap_alloc_lt _ _ _ _ (heap_alloc_new w o0)))
  · exact heap_alloc_lt _ _ _ _ (heap_alloc_lt _ _ _ _ (heap_alloc_at _ o1 _ (by simp)))
  · exact heap_alloc_lt _ _ _ _ (heap_alloc_at _ o2 _ (by simp))
  · exact heap_alloc_at _ o3 _ (by simp)
  · simp
  · exact ((((Below.refl _ _).alloc (Nat.le_refl _) _).alloc (by simp) _).alloc (by simp; omega) _).alloc (by simp; omega) _

theorem cells12 {w : World} {b t : Nat} {a0 a1 a2 a3 a4 a5 a6 a7 a8 a9 a10 a11 : Value} {fz : Nat × Nat} (h : w.heap[b]? = some (.cells #[a0, a1, a2, a3, a4, a5, a6, a7, a8, a9, a10, a11] t fz)) :
    w.cell? ⟨b, 0, none⟩ = some a0 ∧ w.cell? ⟨b, 1, none⟩ = some a1 ∧ w.cell? ⟨b, 2, none⟩ = some a2 ∧ w.cell? ⟨b, 3, none⟩ = some a3 ∧ w.cell? ⟨b, 4, none⟩ = some a4 ∧ w.cell? ⟨b, 5, none⟩ = some a5 ∧ w.cell? ⟨b, 6, none⟩ = some a6 ∧ w.cell? ⟨b, 7, none⟩ = some a7 ∧ w.cell? ⟨b, 8, none⟩ = some a8 ∧ w.cell? ⟨b, 9, none⟩ = some a9 ∧ w.cell? ⟨b, 10, none⟩ = some a10 ∧ w.cell? ⟨b, 11, none⟩ = some a11 := by
  refine ⟨?_, ?_, ?_, ?_, ?_, ?_, ?_, ?_, ?_, ?_, ?_, ?_⟩ <;> simp [World.cell?, h]
theorem frees12 {w : World} {b t : Nat} {cs : Array Value} (h : w.heap[b]? = some (.cells cs t (0, 0))) :
    w.frozen? ⟨b, 0, none⟩ = false ∧ w.frozen? ⟨b, 1, none⟩ = false ∧ w.frozen? ⟨b, 2, none⟩ = false ∧ w.frozen? ⟨b, 3, none⟩ = false ∧ w.frozen? ⟨b, 4, none⟩ = false ∧ w.frozen? ⟨b, 5, none⟩ = false ∧ w.frozen? ⟨b, 6, none⟩ = false ∧ w.frozen? ⟨b, 7, none⟩ = false ∧ w.frozen? ⟨b, 8, none⟩ = false ∧ w.frozen? ⟨b, 9, none⟩ = false ∧ w.frozen? ⟨b, 10, none⟩ = false ∧ w.frozen? ⟨b, 11, none⟩ = false := by
  refine ⟨?_, ?_, ?_, ?_, ?_, ?_, ?_, ?_, ?_, ?_, ?_, ?_⟩ <;> simp [World.frozen?, h]
theorem below_set0 {B k i : Nat} {w W : World} {u : Value} (h : Below B w W) (hk : B ≤ k) : Below B w (W.setCell ⟨k, i, none⟩ u) := h.setCell (p := ⟨k, i, none⟩) hk u
theorem below_set12 {B k : Nat} {w W : World} {a0 a1 a2 a3 a4 a5 a6 a7 a8 a9 a10 a11 : Value} (h : Below B w W) (hk : B ≤ k) :
    Below B w ((((((((((((W.setCell ⟨k, 0, none⟩ a0).setCell ⟨k, 1, none⟩ a1).setCell ⟨k, 2, none⟩ a2).setCell ⟨k, 3, none⟩ a3).setCell ⟨k, 4, none⟩ a4).setCell ⟨k, 5, none⟩ a5).setCell ⟨k, 6, none⟩ a6).setCell ⟨k, 7, none⟩ a7).setCell ⟨k, 8, none⟩ a8).setCell ⟨k, 9, none⟩ a9).setCell ⟨k, 10, none⟩ a10).setCell ⟨k, 11, none⟩ a11) :=
  below_set0 (below_set0 (below_set0 (below_set0 (below_set0 (below_set0 (below_set0 (below_set0 (below_set0 (below_set0 (below_set0 (below_set0 (h) hk) hk) hk) hk) hk) hk) hk) hk) hk) hk) hk) hk
theorem cell_set_other {w : World} {g k i j : Nat} {u : Value} (hne : k ≠ g) : (w.setCell ⟨g, i, none⟩ u).cell? ⟨k, j, none⟩ = w.cell? ⟨k, j, none⟩ := World.cell?_of_block (Below.heap_setCell w ⟨g, i, none⟩ u k hne)
theorem keeps_drew {W W' : World} (h : KeepsOthers W W') : KeepsOthers W W'.drew := ⟨h.size, h.same⟩

theorem blk_set12 {w : World} {k t : Nat} {b0 b1 b2 b3 b4 b5 b6 b7 b8 b9 b10 b11 a0 a1 a2 a3 a4 a5 a6 a7 a8 a9 a10 a11 : Value} {fz : Nat × Nat} (h : w.heap[k]? = some (.cells #[b0, b1, b2, b3, b4, b5, b6, b7, b8, b9, b10, b11] t fz)) :
    ((((((((((((w.setCell ⟨k, 0, none⟩ a0).setCell ⟨k, 1, none⟩ a1).setCell ⟨k, 2, none⟩ a2).setCell ⟨k, 3, none⟩ a3).setCell ⟨k, 4, none⟩ a4).setCell ⟨k, 5, none⟩ a5).setCell ⟨k, 6, none⟩ a6).setCell ⟨k, 7, none⟩ a7).setCell ⟨k, 8, none⟩ a8).setCell ⟨k, 9, none⟩ a9).setCell ⟨k, 10, none⟩ a10).setCell ⟨k, 11, none⟩ a11).heap[k]? = some (.cells #[a0, a1, a2, a3, a4, a5, a6, a7, a8, a9, a10, a11] t fz) := by
  refine (blk_set ((blk_set ((blk_set ((blk_set ((blk_set ((blk_set ((blk_set ((blk_set ((blk_set ((blk_set ((blk_set ((blk_set (h) 0 a0)) 1 a1)) 2 a2)) 3 a3)) 4 a4)) 5 a5)) 6 a6)) 7 a7)) 8 a8)) 9 a9)) 10 a10)) 11 a11).trans ?_
  simp

theorem heap_set12 {w : World} {k D : Nat} {o : Obj} {a0 a1 a2 a3 a4 a5 a6 a7 a8 a9 a10 a11 : Value} (h : w.heap[D]? = some o) (hne : D ≠ k) : ((((((((((((w.setCell ⟨k, 0, none⟩ a0).setCell ⟨k, 1, none⟩ a1).setCell ⟨k, 2, none⟩ a2).setCell ⟨k, 3, none⟩ a3).setCell ⟨k, 4, none⟩ a4).setCell ⟨k, 5, none⟩ a5).setCell ⟨k, 6, none⟩ a6).setCell ⟨k, 7, none⟩ a7).setCell ⟨k, 8, none⟩ a8).setCell ⟨k, 9, none⟩ a9).setCell ⟨k, 10, none⟩ a10).setCell ⟨k, 11, none⟩ a11).heap[D]? = some o :=
  blk_set_other (blk_set_other (blk_set_other (blk_set_other (blk_set_other (blk_set_other (blk_set_other (blk_set_other (blk_set_other (blk_set_other (blk_set_other (blk_set_other (h) hne _ _) hne _ _) hne _ _) hne _ _) hne _ _) hne _ _) hne _ _) hne _ _) hne _ _) hne _ _) hne _ _) hne _ _

theorem alloc3 (w : World) (o0 o1 o2 : Obj) (W : World) (h : ((w.alloc o0).alloc o1).alloc o2 = W) :
    W.heap[w.heap.size]? = some o0 ∧ W.heap[w.heap.size + 1]? = some o1 ∧ W.heap[w.heap.size + 2]? = some o2 ∧ W.heap.size = w.heap.size + 3 ∧ Below w.heap.size w W := by
  subst h
  refine ⟨?_, ?_, ?_, ?_, ?_⟩
  · exact heap_alloc_lt _ _ _ _ (heap_alloc_lt _ _ _ _ (heap_alloc_new w o0))
  · exact heap_alloc_lt _ _ _ _ (heap_alloc_at _ o1 _ (by simp))
  · exact heap_alloc_at _ o2 _ (by simp)
  · simp
  · exact (((Below.refl _ _).alloc (Nat.le_refl _) _).alloc (by simp) _).alloc (by simp; omega) _

theorem cells_grown {W W' : World} {row : Option Nat} {k : Nat} {c : Array Value} {t : TypeId} {fz : Nat × Nat} (h : W.heap[k]? = some (.cells c t fz)) (hg : W.grownBy W' row)
    (hr : ∀ r, row = some r → ∃ o : Obj, W.heap[r]? = some o ∧ o.isCells = false) : W'.heap[k]? = some (.cells c t fz) := by
  refine (hg.block k (Array.getElem?_eq_some_iff.1 h).1 ?_).trans h
  intro e
  obtain ⟨o, ho, hc⟩ := hr k e.symm
  rw [h] at ho
  injection ho with ho
  subst ho
  simp [Obj.isCells] at hc

/-- A loop over an iterator, at the wide fence; the iterator's contract asks that blocks of cells but those of F be kept. -/
theorem wp_rangeFunc {P : Program} {α : Type} {g : Operand} {ps : Array Tmp} {assign body : Code} {Q : Exit → Act → World → Prop} {a : Act} {w : World}
    {gf : Nat} {lb : Array Value} (hg : a.eval g = .func (.func gf) #[] lb) (eg : ∀ args w, (callFunc gf args).run P w = .ok (.enter gf args) w)
    {encs : α → Array Value} {F : Nat → Prop} {S Sp : List α → Prop} {N : Nat} (hseq : SeqStopsK Fence.wide 2 P gf lb encs (KpC F) S Sp N w) (hps : ∀ x, (encs x).size = ps.size)
    (I : List α → World → Prop) (Ix : Code → List α → World → Prop) (hI : OwnFrom w.heap.size I) (hIx : ∀ c, OwnFrom w.heap.size (Ix c)) (h0 : I [] w) (a₁ : α → Act)
    (hassign : ∀ (l : Nat) (x : α) (W : World) (K : Act → World → Prop), K (a₁ x) W →
      assign.wpIn (Fence.wide.inRound l) 1 P (Exit.then K (fun _ _ _ => False)) { tmps := (ps.zip (encs x)).foldl (fun t (p, v) => t.setIfInBounds p v) a.tmps, defers := [] } W)
    (hbody : ∀ (l : Nat) (pre : List α) (x : α) (W : World), I pre W → pre.length < N → body.wpIn (Fence.wide.inRound l) 1 P (ownPostK (KpC F) I Ix (pre ++ [x]) W) (a₁ x) W)
    (hdone : ∀ (D : Nat) (xs : List α) (W : World), w.heap.size ≤ D → S xs → I xs W → W.heap[D]? = some (.deferred (some [])) → Q .normal { a with defers := { target := .collected D, args := #[] } :: a.defers } W)
    (hstop : ∀ (D : Nat) (c : Code) (pre : List α) (W : World), w.heap.size ≤ D → Sp pre → Ix c pre W → W.heap[D]? = some (.deferred (some [])) → c.wp P Q { a with defers := { target := .collected D, args := #[] } :: a.defers } W) :
    (Code.rangeFunc g ps assign body).wp P Q a w :=
  wpIn_wide.1 (wpIn_rangeFunc_ownF (F := Fence.wide) (n := 3) rfl (by omega) hg trivial eg hseq (fun h k => h.trans k) (fun W l o o' _ h ho _ => KpC.putObj W l o o' h ho) (Below.refl _ _) hps I Ix hI hIx h0 a₁ hassign hbody hdone
    (fun D c pre W hD hS hX hK => wpIn_wide.2 (hstop D c pre W hD hS hX hK)))
theorem below_putD {B D : Nat} {w W : World} (h : Below B w W) (hD : B ≤ D) {o o' : Obj} (hK : W.heap[D]? = some o) : Below B w (W.putObj D o') :=
  h.grown (grownBy_putObj' W D o') (by have := (Array.getElem?_eq_some_iff.1 hK).1; omega) (fun k e => by cases e; exact hD)
end Go.Proofs.Ytacdohlhalnioaa

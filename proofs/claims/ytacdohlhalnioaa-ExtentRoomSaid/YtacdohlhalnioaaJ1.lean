/- Joined: XS0 XM0 XB0 XM1 XC1 XC2 XR0 XR1 XR2. -/
import Derived.Below
import Derived.WalkKit
import Derived.Lib.Hide
import Derived.WalkSpells
import Derived.WalkLawsBesides
import Derived.Laws.BitsAllLaws
import Derived.Laws.CopyOwn
import Derived.Maps.AppendAt
import Derived.Test.YtacdohlhalnioaaProg
import Derived.RangeFuncNested
import Derived.RangeFuncBound
import Derived.RangeFuncBox
import Derived.RangeFuncCalls
import Derived.RangeFuncLeaves
import Derived.Shelf.Abstract
import Derived.OwnWalkIn
import Derived.TacticsInMore
import Derived.LoopNIn
import Derived.LoopIn
import Derived.Deep.RegionHeld3
/- Lists of bytes, numbers of bytes, and volumes as lists: plain definitions and lemmas, without the program. -/
section
set_option linter.unusedSimpArgs false
namespace Go.Proofs.Ytacdohlhalnioaa

abbrev Blk := List UInt8
abbrev Vol := List Blk

/-- The string of some bytes. -/
def mk (l : Blk) : ByteArray := ⟨l.toArray⟩
theorem mk_fold (l : Blk) : ByteArray.mk l.toArray = mk l := rfl
theorem mk_inj {a b : Blk} (h : mk a = mk b) : a = b := by
  have := congrArg (fun s : ByteArray => s.data.toList) h
  simpa [mk] using this
theorem mk_of (s : ByteArray) : mk s.data.toList = s := by
  rcases s with ⟨⟨l⟩⟩; rfl
theorem mk_ex (s : ByteArray) : ∃ l, s = mk l := ⟨_, (mk_of s).symm⟩
@[simp] theorem mk_toList (l : Blk) : (mk l).data.toList = l := rfl
@[simp] theorem mk_size (l : Blk) : (mk l).size = l.length := by show l.toArray.size = _; simp
@[simp] theorem mk_append (a b : Blk) : mk a ++ mk b = mk (a ++ b) := by
  have h : ∀ s : ByteArray, mk s.data.toList = s := mk_of
  rw [← h (mk a ++ mk b)]
  congr 1
@[simp] theorem mk_extract (l : Blk) (a b : Nat) : (mk l).extract a b = mk ((l.drop a).take (b - a)) := by
  rw [← mk_of ((mk l).extract a b)]
  congr 1
  rw [ByteArray.data_extract]
  simp [mk]
/-- The byte at a place, as a number. -/
def gb (l : Blk) (i : Nat) : Nat := (l.getD i 0).toNat
theorem gb_lt (l : Blk) (i : Nat) : gb l i < 256 := (l.getD i 0).toNat_lt
theorem mk_getElem (l : Blk) (i : Nat) (h : i < (mk l).size) : ((mk l)[i]'h).toNat = gb l i := by
  have h' : i < l.length := by simpa using h
  show (l.toArray[i]'(by simpa using h')).toNat = _
  simp [gb, List.getD_eq_getElem?_getD, h']

/-- The number of bytes, the lowest one first. -/
def le : Blk → Nat
  | [] => 0
  | c :: r => c.toNat + 256 * le r
/-- The lowest bytes of a number. -/
def ple (n : Nat) : Nat → Blk
  | 0 => []
  | k + 1 => UInt8.ofNat n :: ple (n / 256) k
/-- The number of two bytes. -/
def w2 (l : Blk) (i : Nat) : Nat := gb l i + 256 * gb l (i + 1)
/-- So many zeros. -/
def zs (n : Nat) : Blk := List.replicate n 0
/-- The block at a place of a volume. -/
def bk (v : Vol) (i : Nat) : Blk := v.getD i []
/-- A bit of a map. -/
def bit (m : Blk) (i : Nat) : Bool := (gb m (i / 8)) / 2 ^ (i % 8) % 2 == 1
/-- A map with a bit turned. -/
def turn (m : Blk) (i : Nat) : Blk := m.set (i / 8) (UInt8.ofNat (gb m (i / 8) ^^^ 2 ^ (i % 8)))

@[simp] theorem ple_length (n k : Nat) : (ple n k).length = k := by
  induction k generalizing n with
  | zero => rfl
  | succ k ih => simp [ple, ih]
@[simp] theorem zs_length (n : Nat) : (zs n).length = n := by simp [zs]
@[simp] theorem turn_length (m : Blk) (i : Nat) : (turn m i).length = m.length := by simp [turn]
theorem le_lt (l : Blk) : le l < 256 ^ l.length := by
  induction l with
  | nil => simp [le]
  | cons c r ih =>
    have hc := c.toNat_lt
    simp only [le, List.length_cons, Nat.pow_succ]
    omega
theorem le_snoc (l : Blk) (c : UInt8) : le (l ++ [c]) = le l + c.toNat * 256 ^ l.length := by
  induction l with
  | nil => simp [le]
  | cons d r ih =>
    simp only [List.cons_append, le, ih, List.length_cons, Nat.pow_succ]
    rw [Nat.mul_add, Nat.mul_comm (256 ^ r.length) 256, ← Nat.mul_assoc c.toNat, Nat.mul_comm c.toNat 256, Nat.mul_assoc, Nat.add_assoc]
theorem le_two (l : Blk) (h : l.length = 2) : le l = w2 l 0 := by
  match l, h with
  | [a, b], _ => simp [le, w2, gb]
theorem gb_drop (l : Blk) (a i : Nat) : gb (l.drop a) i = gb l (a + i) := by simp [gb, List.getD_eq_getElem?_getD]
theorem gb_take (l : Blk) (n i : Nat) (h : i < n) : gb (l.take n) i = gb l i := by simp [gb, List.getD_eq_getElem?_getD, h]
theorem w2_drop (l : Blk) (a i : Nat) : w2 (l.drop a) i = w2 l (a + i) := by simp [w2, gb_drop, Nat.add_assoc]
theorem w2_take (l : Blk) (n i : Nat) (h : i + 1 < n) : w2 (l.take n) i = w2 l i := by rw [w2, w2, gb_take _ _ _ (by omega), gb_take _ _ _ h]
theorem w2_lt (l : Blk) (i : Nat) : w2 l i < 65536 := by
  have := gb_lt l i; have := gb_lt l (i + 1); unfold w2; omega
end Go.Proofs.Ytacdohlhalnioaa
end

/- How volumes and strings lie in memory: words for the contracts, without the program. -/
section
set_option linter.unusedSimpArgs false
namespace Go.Proofs.Ytacdohlhalnioaa
open Go.RowKit

/-- The slice at A reads as these strings. -/
def RS (w : World) (A : Option Addr) (l : Vol) : Prop :=
  l.length ≤ 8796093022208 ∧ (0 < l.length → ∃ b o, A = some ⟨b, o, none⟩ ∧ ∀ j : Nat, j < l.length → w.cell? ⟨b, o + j, none⟩ = some (.string (mk (bk l j))))
theorem RS.open_ {w : World} {A : Option Addr} {l : Vol} (h : RS w A l) (h0 : 0 < l.length) : ∃ b o, A = some ⟨b, o, none⟩ ∧ b < w.heap.size ∧ ∀ j : Nat, j < l.length → w.cell? ⟨b, o + j, none⟩ = some (.string (mk (bk l j))) := by
  obtain ⟨b, o, e, hc⟩ := h.2 h0
  exact ⟨b, o, e, World.block_lt_of_cell? w _ (hc 0 h0), hc⟩
theorem RS.below {w w' : World} {A : Option Addr} {l : Vol} (h : RS w A l) (hb : Below w.heap.size w w') : RS w' A l :=
  ⟨h.1, fun h0 => by
    obtain ⟨b, o, e, hc⟩ := h.2 h0
    exact ⟨b, o, e, fun j hj => (hb.cell (World.block_lt_of_cell? w _ (hc j hj))).trans (hc j hj)⟩⟩
theorem ret_int {k : IntKind} {a b : Int} (h : a = b) : Ending.returned (.int k a) = .returned (.int k b) := by rw [h]
theorem ret_bool {a b : Bool} (h : a = b) : Ending.returned (.bool a) = .returned (.bool b) := by rw [h]
theorem ret_str {a b : Blk} (h : a = b) : Ending.returned (.string (mk a)) = .returned (.string (mk b)) := by rw [h]
theorem bk_get (v : Vol) (i : Nat) (h : i < v.length) : v[i] = bk v i := by simp [bk, h]
theorem mk_bytes (l : Blk) : (mk l).toList = l := by rw [ByteArray.toList_eq]; rfl
attribute [simp] mk_getElem mk_fold mk_bytes
end Go.Proofs.Ytacdohlhalnioaa
end

/- The walk's own arithmetic on bytes, in plain numbers; rows of bytes in memory. Without the program. -/
section
set_option linter.unusedSimpArgs false
namespace Go.Proofs.Ytacdohlhalnioaa
open Go.RowKit

theorem int_pow (a b : Nat) : ((a : Int)) ^ b = ((a ^ b : Nat) : Int) := by simp
theorem two_pow (b : Nat) : (2 : Int) ^ b = ((2 ^ b : Nat) : Int) := by simp

theorem has_bits (m : Blk) (i : Nat) : (bits BinOp.and IntKind.u8 ((gb m (i / 8) : Int) / 2 ^ (i % 8)) 1 == 1) = bit m i := by
  have h := gb_lt m (i / 8)
  have e : ((gb m (i / 8) : Nat) : Int) / 2 ^ (i % 8) = ((gb m (i / 8) / 2 ^ (i % 8) : Nat) : Int) := by rw [two_pow]; rfl
  have hlt : gb m (i / 8) / 2 ^ (i % 8) < 256 := Nat.lt_of_le_of_lt (Nat.div_le_self _ _) h
  rw [e, show (1 : Int) = ((1 : Nat) : Int) from rfl, u8_and_nat _ _ hlt (by omega), nat_mask1]
  unfold bit
  rw [Bool.eq_iff_iff]
  simp only [beq_iff_eq]
  omega

theorem take_succ_blk (s : Blk) (k : Nat) (h : k < s.length) : s.take (k + 1) = s.take k ++ [UInt8.ofNat (gb s k)] := by
  rw [List.take_succ_eq_append_getElem h]
  congr 2
  simp [gb, h]
theorem pow256 (k : Nat) : 256 ^ k = 2 ^ (8 * k) := by rw [show (256 : Nat) = 2 ^ 8 from rfl, ← Nat.pow_mul]
theorem le_take_succ (s : Blk) (k : Nat) (h : k < s.length) : le (s.take (k + 1)) = le (s.take k) + gb s k * 2 ^ (8 * k) := by
  rw [take_succ_blk s k h, le_snoc, List.length_take, Nat.min_eq_left (by omega), pow256]
  congr 1
  have := gb_lt s k
  rw [UInt8.toNat_ofNat', Nat.mod_eq_of_lt this]
theorem get_step (s : Blk) (k : Nat) (h : k < s.length) (h8 : s.length ≤ 8) :
    bits BinOp.or IntKind.u64 ((le (s.take k) : Nat) : Int) (IntKind.u64.wrap (IntKind.u64.wrap ((gb s k : Nat) : Int) * 2 ^ (8 * k))) = ((le (s.take (k + 1)) : Nat) : Int) := by
  have hg := gb_lt s k
  have hl : le (s.take k) < 2 ^ (8 * k) := by
    have := le_lt (s.take k)
    rwa [List.length_take, Nat.min_eq_left (by omega), pow256] at this
  have hp : 2 ^ (8 * k) ≤ 2 ^ 56 := Nat.pow_le_pow_right (by omega) (by omega)
  have hprod : gb s k * 2 ^ (8 * k) < 256 * 2 ^ (8 * k) := Nat.mul_lt_mul_of_pos_right hg (Nat.pow_pos (by omega))
  have e1 : IntKind.u64.wrap ((gb s k : Nat) : Int) = ((gb s k : Nat) : Int) := by
    simp [IntKind.wrap, IntKind.bits, IntKind.signed]; omega
  have e2 : IntKind.u64.wrap (((gb s k : Nat) : Int) * 2 ^ (8 * k)) = ((gb s k * 2 ^ (8 * k) : Nat) : Int) := by
    rw [two_pow, ← Int.natCast_mul]
    simp only [IntKind.wrap, IntKind.bits, IntKind.signed]
    generalize gb s k * 2 ^ (8 * k) = z at hprod ⊢
    simp
    omega
  rw [e1, e2, u64_or_nat _ _ (by omega) (by omega), le_take_succ s k h, Nat.or_comm, Nat.add_comm]
  congr 1
  exact nat_join (8 * k) _ _ (by simp) hl

/-- Bytes as the cells of a row. -/
def bvs (l : Blk) : Array Value := (l.map fun c => Value.int .u8 c.toNat).toArray
theorem bvs_size (l : Blk) : (bvs l).size = l.length := by simp [bvs]
theorem bvs_get (l : Blk) (j : Nat) (h : j < l.length) : (bvs l)[j]? = some (.int .u8 (gb l j)) := by simp [bvs, gb, h]
theorem bvs_set (l : Blk) (j : Nat) (n : Nat) (h : n < 256) : (bvs l).setIfInBounds j (.int .u8 n) = bvs (l.set j (UInt8.ofNat n)) := by
  simp only [bvs, List.setIfInBounds_toArray]
  congr 1
  rw [List.map_set, UInt8.toNat_ofNat', Nat.mod_eq_of_lt h]

section
variable {P : Program}
/-- make([]byte, m). -/
theorem make_u8 (t e : TypeId) (i : TypeInfo) (ht : P.underlying t = some (.slice e)) (hi : P.info? e = some i) (hz : i.zero = some (.int .u8 0)) (hs : i.size = 1) (hb : i.bytes = 1) (m : Nat) (hm : m ≤ 281474976710656) (W : World) :
    (Instr.makeSlice t (.int .i64 (m : Int)) (.int .i64 (m : Int))).run P W = .ok (.slice (some ⟨W.heap.size, 0, none⟩) m m) (W.alloc (.cells (bvs (zs m)) e)) := by
  rw [run_make W t e i (.int .u8 0) ht hi hz .i64 .i64 m m (by omega) (by omega) (by rw [hb]; omega) (by omega)]
  simp only [hs, Int.toNat_natCast, Nat.mul_one]
  congr 3
  simp only [madeCells, Value.cells, bvs, zs]
  apply Array.ext
  · simp
  · intro j h1 h2
    simp [Nat.mod_one]
/-- string(b), b a row of bytes. -/
theorem str_u8 (src dst e : TypeId) (hs : P.underlying src = some (.slice e)) (he : P.underlying e = some (.int .u8)) (hd : P.underlying dst = some .string) (W : World) (b off n c : Nat) (l : Blk) (hl : l.length = n)
    (hc : ∀ j, j < n → W.cell? ⟨b, off + j, none⟩ = some (.int .u8 (gb l j))) :
    (convert src dst (.slice (some ⟨b, off, none⟩) n c)).run P W = .ok (.string (mk l)) W := by
  rw [run_convert_bytes_arg W src e hs he b off n c (l.map fun c => (c.toNat : Int)) (by simpa using hl) (fun j hj => by
    rw [hc j hj]; simp [gb, List.getElem?_eq_getElem (show j < l.length by omega)]) dst hd]
  congr 2
  simp only [strOfNums, mk, List.map_map]
  congr 2
  rw [List.map_congr_left (g := id) (fun a _ => by simp), List.map_id]
theorem str_u8_nil (src dst e : TypeId) (hs : P.underlying src = some (.slice e)) (he : P.underlying e = some (.int .u8)) (hd : P.underlying dst = some .string) (W : World) (n c : Nat) :
    (convert src dst (.slice none n c)).run P W = .ok (.string (mk [])) W := run_convert_bytes_nil W src e hs he n c dst hd
end
end Go.Proofs.Ytacdohlhalnioaa
end

/- Rows of strings that a call has made, and their cells: without the program. -/
section
set_option linter.unusedSimpArgs false
namespace Go.Proofs.Ytacdohlhalnioaa
open Go.RowKit

theorem below_und {w w' : World} (h : Below w.drew.heap.size w.drew w') : Below w.heap.size w w' := ⟨h.os, h.tape, h.output, h.size, h.block⟩
/-- A block of strings that may be written. -/
def VB (T : TypeId) (w : World) (g : Nat) (v : Vol) : Prop := ∃ cur : Array Value, w.heap[g]? = some (.cells cur T (0, 0)) ∧ ∀ j, j < v.length → cur[j]? = some (.string (mk (bk v j)))
def strs (v : Vol) : List Value := v.map fun s => .string (mk s)
theorem strs_length (v : Vol) : (strs v).length = v.length := by simp [strs]
theorem strs_get (v : Vol) (j : Nat) (h : j < v.length) : (strs v)[j]? = some (.string (mk (bk v j))) := by simp [strs, bk, h]
theorem strs_one (v : Vol) : ∀ x ∈ strs v, x.oneCell' = true := by
  intro x hx
  simp only [strs, List.mem_map] at hx
  obtain ⟨b, _, rfl⟩ := hx
  rfl
theorem bk_set_same (v : Vol) (i : Nat) (s : Blk) (h : i < v.length) : bk (v.set i s) i = s := by simp [bk, h]
theorem bk_set_other (v : Vol) (i j : Nat) (s : Blk) (h : i ≠ j) : bk (v.set i s) j = bk v j := by simp [bk, List.getD_eq_getElem?_getD, h]
theorem VB.cell {T : TypeId} {w : World} {g : Nat} {v : Vol} (h : VB T w g v) (j : Nat) (hj : j < v.length) : w.cell? ⟨g, j, none⟩ = some (.string (mk (bk v j))) := by
  obtain ⟨cur, hg, hc⟩ := h
  simp [World.cell?, hg, hc j hj]
theorem VB.free {T : TypeId} {w : World} {g : Nat} {v : Vol} (h : VB T w g v) (j : Nat) : w.frozen? ⟨g, j, none⟩ = false := by
  obtain ⟨cur, hg, hc⟩ := h
  simp [World.frozen?, hg]
theorem VB.lt {T : TypeId} {w : World} {g : Nat} {v : Vol} (h : VB T w g v) : g < w.heap.size := by
  obtain ⟨cur, hg, hc⟩ := h
  exact (Array.getElem?_eq_some_iff.1 hg).1
theorem VB.keep {T : TypeId} {w w' : World} {g : Nat} {v : Vol} (h : VB T w g v) (hb : Below w.heap.size w w') : VB T w' g v := by
  have hl := h.lt
  obtain ⟨cur, hg, hc⟩ := h
  exact ⟨cur, (hb.block g hl).trans hg, hc⟩
theorem VB.same {T : TypeId} {w w' : World} {g : Nat} {v : Vol} (h : VB T w g v) (hb : w'.heap[g]? = w.heap[g]?) : VB T w' g v := by
  obtain ⟨cur, hg, hc⟩ := h
  exact ⟨cur, hb.trans hg, hc⟩
theorem VB.set {T : TypeId} {w : World} {g : Nat} {v : Vol} (h : VB T w g v) (i : Nat) (s : Blk) (hi : i < v.length) : VB T (w.setCell ⟨g, i, none⟩ (.string (mk s))) g (v.set i s) := by
  obtain ⟨cur, hg, hc⟩ := h
  have his := hc i hi
  refine ⟨cur.setIfInBounds i (.string (mk s)), by simp [World.setCell, Array.getElem?_modify, hg], fun j hj => ?_⟩
  rw [List.length_set] at hj
  have hcs : i < cur.size := by
    rcases Nat.lt_or_ge i cur.size with h | h
    · exact h
    · rw [Array.getElem?_eq_none h] at his; cases his
  by_cases e : i = j
  · subst e
    rw [bk_set_same v i s hi]
    simp [Array.getElem?_setIfInBounds, hcs]
  · rw [bk_set_other v i j s e, Array.getElem?_setIfInBounds_ne e]
    exact hc j hj
theorem VB.other {T : TypeId} {w : World} {g k i : Nat} {v : Vol} {u : Value} (h : VB T w g v) (hne : g ≠ k) : VB T (w.setCell ⟨k, i, none⟩ u) g v :=
  h.same (Below.heap_setCell w ⟨k, i, none⟩ u g hne)
theorem VB.rs {T : TypeId} {w : World} {g : Nat} {v : Vol} (h : VB T w g v) (hl : v.length ≤ 8796093022208) : RS w (some ⟨g, 0, none⟩) v :=
  ⟨hl, fun _ => ⟨g, 0, rfl, fun j hj => by rw [Nat.zero_add]; exact h.cell j hj⟩⟩
theorem VB.of_own {T : TypeId} {w : World} {base n : Nat} {u : Value} {v : Vol} (h : w.ownsRow base T 1 u n (strs v)) (hn : v.length = n) (h0 : 0 < n) :
    ∃ g cap, u = .slice (some ⟨g, 0, none⟩) n cap ∧ base ≤ g ∧ VB T w g v := by
  rcases h.2 with ⟨_, rfl⟩ | ⟨g, cap, cur, rfl, hb, hg, hnc, hcm, hcs, ht⟩
  · omega
  · refine ⟨g, cap, rfl, hb, cur, hg, fun j hj => ?_⟩
    have := strs_get v j hj
    rw [← ht, Nat.mul_one, List.getElem?_take_of_lt (by omega)] at this
    simpa using this
theorem strs_zs (s : List ByteArray) (v : Vol) (h : s = v.map mk) : s.map Value.string = strs v := by subst h; simp [strs]
theorem splice_all (n : Nat) (cur cs : List Value) (h : cur.length = n) (h' : cs.length = n) : splice cur 0 cs = cs := by
  simp only [splice, List.take_zero, List.nil_append, Nat.zero_add]
  rw [List.drop_of_length_le (by omega), List.append_nil]
variable {P : Program}
theorem make_str (t e : TypeId) (i : TypeInfo) (ht : P.underlying t = some (.slice e)) (hi : P.info? e = some i) (hz : i.zero = some (.string (mk []))) (hs : i.size = 1) (hb : i.bytes = 16) (m : Nat) (hm : m ≤ 8796093022208) (W : World) :
    (Instr.makeSlice t (.int .i64 (m : Int)) (.int .i64 (m : Int))).run P W = .ok (.slice (some ⟨W.heap.size, 0, none⟩) m m) (W.alloc (.cells (strs (List.replicate m [])).toArray e)) := by
  rw [run_make W t e i (.string (mk [])) ht hi hz .i64 .i64 m m (by omega) (by omega) (by rw [hb]; omega) (by omega)]
  simp only [hs, Int.toNat_natCast, Nat.mul_one]
  congr 3
  simp only [madeCells, Value.cells, strs]
  apply Array.ext
  · simp
  · intro j h1 h2
    simp [Nat.mod_one]
end Go.Proofs.Ytacdohlhalnioaa
end

/- Contracts of the smallest functions. -/
section
set_option linter.unusedSimpArgs false
namespace Go.Proofs.Ytacdohlhalnioaa
open Go.RowKit

def putc (n k j : Nat) : Blk := (ple n k).take j ++ zs (k - j)
theorem putc_length (n k j : Nat) (h : j ≤ k) : (putc n k j).length = k := by simp [putc, ple_length, zs_length]; omega
theorem ple_get (n k j : Nat) (h : j < k) : (ple n k)[j]? = some (UInt8.ofNat (n / 256 ^ j)) := by
  induction k generalizing n j with
  | zero => omega
  | succ k ih =>
    cases j with
    | zero => simp [ple]
    | succ j => rw [ple, List.getElem?_cons_succ, ih _ _ (by omega), Nat.div_div_eq_div_mul, Nat.pow_succ, Nat.mul_comm]
theorem put_step (n k j : Nat) (h : j < k) : (bvs (putc n k j)).setIfInBounds j (.int .u8 ((n : Int) / 2 ^ (8 * j) % 256)) = bvs (putc n k (j + 1)) := by
  have e : (n : Int) / 2 ^ (8 * j) % 256 = ((n / 256 ^ j % 256 : Nat) : Int) := by rw [two_pow, pow256]; simp
  rw [e, bvs_set _ _ _ (Nat.mod_lt _ (by omega))]
  congr 1
  unfold putc
  rw [List.set_append_right _ _ (by rw [List.length_take, ple_length]; omega)]
  have hl : ((ple n k).take j).length = j := by rw [List.length_take, ple_length]; omega
  rw [hl, Nat.sub_self, show k - j = k - (j + 1) + 1 from by omega, zs, List.replicate_succ, List.set_cons_zero, List.take_add_one, ple_get n k j h]
  simp [zs]
  apply UInt8.toNat_inj.1
  simp
theorem str_of_u8 (W : World) (b off n c : Nat) (l : Blk) (hl : l.length = n) (hc : ∀ j, j < n → W.cell? ⟨b, off + j, none⟩ = some (.int .u8 (gb l j))) :
    (convert 62 9 (.slice (some ⟨b, off, none⟩) n c)).run Try.prog W = .ok (.string (mk l)) W :=
  str_u8 _ _ _ Try.underlying62 Try.underlying5 Try.underlying9 W b off n c l hl hc
theorem mk_u8 (m : Nat) (hm : m ≤ 281474976710656) (W : World) : (Instr.makeSlice 62 (.int .i64 (m : Int)) (.int .i64 (m : Int))).run Try.prog W = .ok (.slice (some ⟨W.heap.size, 0, none⟩) m m) (W.alloc (.cells (bvs (zs m)) 5)) := by
  obtain ⟨i0, hi, hz0, hz1, hz2⟩ := info_parts (show (Try.prog.info? 5).map (fun i => (i.zero, i.size, i.bytes)) = some (some (.int .u8 0), 1, 1) by kernel_rfl)
  exact make_u8 _ _ i0 Try.underlying62 hi hz0 hz1 hz2 m hm W

set_option maxHeartbeats 400000 in
theorem has_ok (m : Blk) (i : Nat) (w : World) (hm : m.length = 128) (h : i < 1024) :
    Calls Try.prog 94 #[.string (mk m), .int .i64 i] w fun e w' => e = .returned (.bool (bit m i)) ∧ w = w' := by
  have h1 : (0 : Int) ≤ (i : Int) / 8 := by omega
  have h2 : (i : Int) / 8 < (List.length m : Nat) := by omega
  have hb := gb_lt m (i / 8)
  go_enter Try.func94, Try.ntmps94
  go_wp2
  go_ret
  exact ⟨ret_bool (has_bits m i), rfl⟩
set_option maxHeartbeats 400000 in
theorem get_ok (s : Blk) (w : World) (h : s.length ≤ 8) :
    Calls Try.prog 69 #[.string (mk s)] w fun e w' => e = .returned (.int .u64 (le s)) ∧ w = w' := by
  go_enter Try.func69, Try.ntmps69
  go_wp2
  go_loop [3, 8] (fun n i => ∃ k : Nat, k ≤ s.length ∧ i = .int .i64 k ∧ n = .int .u64 (le (s.take k))) (fun _ i => s.length - (intOf i).toNat)
  case atStart => exact ⟨0, Nat.zero_le _, rfl, rfl⟩
  case round =>
    obtain ⟨k, hk, rfl, rfl⟩ := hrel
    by_cases hlt : k < s.length
    · go_wp2
      refine ⟨⟨k + 1, by omega, by go_num, ?_⟩, by simp [intOf]; omega⟩
      rw [get_step s k hlt h]
    · go_wp2
      go_ret
      exact ⟨ret_int (by rw [List.take_of_length_le (by omega)]), rfl⟩
set_option maxHeartbeats 400000 in
theorem put_ok (n k : Nat) (w : World) (h : k ≤ 8) (_ : n < 4294967296) :
    Calls Try.prog 67 #[.int .u64 n, .int .i64 k] w fun e w' => e = .returned (.string (mk (ple n k))) ∧ Below w.heap.size w w' := by
  have hmk := mk_u8 k (by omega)
  go_enter Try.func67, Try.ntmps67
  go_wp2
  go_loopw [13] (fun i wr => ∃ j : Nat, j ≤ k ∧ i = .int .i64 j ∧ wr = w.alloc (.cells (bvs (putc n k j)) 5)) (fun i _ => k - (intOf i).toNat)
  case atStart => exact ⟨0, Nat.zero_le _, rfl, rfl⟩
  case round =>
    obtain ⟨j, hj, rfl, rfl⟩ := hrel
    by_cases hlt : j < k
    · have hcell := bvs_get (putc n k j) j (by rw [putc_length _ _ _ hj]; exact hlt)
      go_wp2
      refine ⟨⟨j + 1, by omega, by go_num, ?_⟩, by simp [intOf]; omega⟩
      rw [put_step n k j hlt]
    · obtain rfl : j = k := by omega
      have hst := str_of_u8 (w.alloc (.cells (bvs (putc n j j)) 5)) w.heap.size 0 j j (putc n j j) (putc_length _ _ _ hj) (fun i hi => by
        rw [World.cell?_alloc_at _ _ _ _ rfl, Nat.zero_add, bvs_get _ _ (by rw [putc_length _ _ _ hj]; exact hi)])
      go_wp2
      go_ret
      exact ⟨ret_str (by simp [putc, zs]; exact List.take_of_length_le (by simp [ple_length])), (Below.refl _ _).alloc (Nat.le_refl _) _⟩
end Go.Proofs.Ytacdohlhalnioaa
end

/- Contracts: the plan of a volume, and looks at sizes. -/
section
set_option linter.unusedSimpArgs false
set_option linter.unusedVariables false
namespace Go.Proofs.Ytacdohlhalnioaa
open Go.RowKit

def planE (b i : Nat) : Nat := if b < 16 ∨ 223 < b ∨ i < 4 ∨ 64 < i then 2 else if b ≤ 3 + (i + 1) / 2 then 10 else 0

theorem planE_ok {b i : Nat} (h : planE b i = 0) : 16 ≤ b ∧ b ≤ 223 ∧ 4 ≤ i ∧ i ≤ 64 ∧ 3 + (i + 1) / 2 < b := by
  unfold planE at h
  split at h
  · omega
  · split at h
    · omega
    · omega
theorem planE_no {b i : Nat} (h : planE b i ≠ 0) : ((b < 16 ∨ 223 < b ∨ i < 4 ∨ 64 < i) ∧ planE b i = 2) ∨ (16 ≤ b ∧ b ≤ 223 ∧ 4 ≤ i ∧ i ≤ 64 ∧ b ≤ 3 + (i + 1) / 2 ∧ planE b i = 10) := by
  unfold planE at h ⊢
  split at h
  · rename_i c
    exact .inl ⟨c, if_pos c⟩
  · rename_i c
    split at h
    · rename_i d
      exact .inr ⟨by omega, by omega, by omega, by omega, d, by rw [if_neg c, if_pos d]⟩
    · omega

set_option maxHeartbeats 400000 in
theorem plan_ok (b i : Nat) (w : World) (hb : b ≤ 8796093022208) (hi : i ≤ 65535) (h : planE b i = 0) :
    Calls Try.prog 90 #[.int .i64 b, .int .i64 i] w fun e w' => e = .returned (.tuple #[.agg #[.int .i64 b, .int .i64 i, .int .i64 1, .int .i64 2, .int .i64 3, .int .i64 (3 + ((i : Int) + 1) / 2)], .int .i64 0]) ∧ Below w.heap.size w w' := by
  obtain ⟨a1, a2, a3, a4, h2⟩ := planE_ok h
  clear h
  go_enter Try.func90, Try.ntmps90
  go_wp2
  exact bodyPost_ret (v := .tuple #[.agg #[.int .i64 b, .int .i64 i, .int .i64 1, .int .i64 2, .int .i64 3, .int .i64 (3 + ((i : Int) + 1) / 2)], .int .i64 0]) (by simp [results, Try.results90, go_sem]) rfl ⟨rfl, ((Below.refl _ _).alloc (Nat.le_refl _) _).alloc (by simp) _⟩
set_option maxHeartbeats 400000 in
theorem plan_no (b i : Nat) (w : World) (hb : b ≤ 8796093022208) (hi : i ≤ 65535) (h : planE b i ≠ 0) :
    Calls Try.prog 90 #[.int .i64 b, .int .i64 i] w fun e w' => e = .returned (.tuple #[.agg #[.int .i64 0, .int .i64 0, .int .i64 0, .int .i64 0, .int .i64 0, .int .i64 0], .int .i64 (planE b i)]) ∧ Below w.heap.size w w' := by
  rcases planE_no h with ⟨h1, e⟩ | ⟨a1, a2, a3, a4, h2, e⟩
  · rw [e]
    clear h e
    go_enter Try.func90, Try.ntmps90
    go_wp2
    all_goals exact bodyPost_ret (v := .tuple #[.agg #[.int .i64 0, .int .i64 0, .int .i64 0, .int .i64 0, .int .i64 0, .int .i64 0], .int .i64 2]) (by simp [results, Try.results90, go_sem]) rfl ⟨rfl, (Below.refl _ _).alloc (Nat.le_refl _) _⟩
  · rw [e]
    clear h e
    go_enter Try.func90, Try.ntmps90
    go_wp2
    exact bodyPost_ret (v := .tuple #[.agg #[.int .i64 0, .int .i64 0, .int .i64 0, .int .i64 0, .int .i64 0, .int .i64 0], .int .i64 10]) (by simp [results, Try.results90, go_sem]) rfl ⟨rfl, ((Below.refl _ _).alloc (Nat.le_refl _) _).alloc (by simp) _⟩

set_option maxHeartbeats 400000 in
theorem rplan_ok (b i : Nat) (w : World) (hb : b ≤ 8796093022208) (hi : i ≤ 65535) (h : planE b i = 0) :
    Calls Try.prog 86 #[.int .i64 b, .int .i64 i] w fun e w' => e = .returned (.tuple #[.agg #[.int .i64 b, .int .i64 i, .int .i64 1, .int .i64 2, .int .i64 3, .int .i64 (3 + ((i : Int) + 1) / 2)], .int .i64 0]) ∧ Below w.heap.size w w' := by
  obtain ⟨a1, a2, a3, a4, h2⟩ := planE_ok h
  clear h
  go_enter Try.func86, Try.ntmps86
  go_wp2
  exact bodyPost_ret (v := .tuple #[.agg #[.int .i64 b, .int .i64 i, .int .i64 1, .int .i64 2, .int .i64 3, .int .i64 (3 + ((i : Int) + 1) / 2)], .int .i64 0]) (by simp [results, Try.results86, go_sem]) rfl ⟨rfl, ((Below.refl _ _).alloc (Nat.le_refl _) _).alloc (by simp) _⟩
set_option maxHeartbeats 400000 in
theorem rplan_no (b i : Nat) (w : World) (hb : b ≤ 8796093022208) (hi : i ≤ 65535) (h : planE b i ≠ 0) :
    Calls Try.prog 86 #[.int .i64 b, .int .i64 i] w fun e w' => e = .returned (.tuple #[.agg #[.int .i64 0, .int .i64 0, .int .i64 0, .int .i64 0, .int .i64 0, .int .i64 0], .int .i64 (planE b i)]) ∧ Below w.heap.size w w' := by
  rcases planE_no h with ⟨h1, e⟩ | ⟨a1, a2, a3, a4, h2, e⟩
  · rw [e]
    clear h e
    go_enter Try.func86, Try.ntmps86
    go_wp2
    all_goals exact bodyPost_ret (v := .tuple #[.agg #[.int .i64 0, .int .i64 0, .int .i64 0, .int .i64 0, .int .i64 0, .int .i64 0], .int .i64 2]) (by simp [results, Try.results86, go_sem]) rfl ⟨rfl, (Below.refl _ _).alloc (Nat.le_refl _) _⟩
  · rw [e]
    clear h e
    go_enter Try.func86, Try.ntmps86
    go_wp2
    exact bodyPost_ret (v := .tuple #[.agg #[.int .i64 0, .int .i64 0, .int .i64 0, .int .i64 0, .int .i64 0, .int .i64 0], .int .i64 10]) (by simp [results, Try.results86, go_sem]) rfl ⟨rfl, ((Below.refl _ _).alloc (Nat.le_refl _) _).alloc (by simp) _⟩
end Go.Proofs.Ytacdohlhalnioaa
end

/- Ranges over a function: the wide fence, a region in a round that draws its order, what a round keeps. Without the program. -/
section
set_option linter.unusedSimpArgs false
set_option linter.unusedVariables false
namespace Go.Proofs.Ytacdohlhalnioaa
open Go.RowKit

section
variable {P : Program} {ops : Array Oper} {Q : Exit → Act → World → Prop} {md : Region.Mode} {S : World → Prop}
theorem rowsIn_wide {n : Nat} {row : String} {args : Array Value} {w : World} {R : Value → World → Prop} (h : Rows P row args w R) (l : Nat) : RowsIn (Fence.wide.inRound l) n P row args w R :=
  fun c cs _ => let ⟨v, w', r, s⟩ := h c cs; ⟨v, w', r, stepsIn_wide.2 s⟩
theorem uponIn_of_upon {o : Oper} {a : Act} {K : Act → World → Prop} {r : Result Next} (l n : Nat) (h : o.upon P a K Q r) : o.uponIn (Fence.wide.inRound l) n P a K Q r := by
  cases r with
  | ok x w' =>
    cases x <;> simp only [Oper.upon, Oper.uponIn] at h ⊢
    case value => exact h
    case skip => exact h
    case defer => exact h
    case enter f args =>
      refine ⟨fun h => by simp [Fence.wide] at h, CallsIn.inRound l (callsIn_wide.2 (h.mono ?_))⟩
      intro e w'' he
      cases e <;> exact he
    case row => exact ⟨fun h => by simp [Fence.wide] at h, rowsIn_wide h l⟩
  | halt x w' =>
    cases x <;> simp only [Oper.upon, Oper.uponIn] at h ⊢
    case panic => exact h
theorem wpOpIn_of_wpOp {i : Nat} {K : Act → World → Prop} {a : Act} {w : World} (l n : Nat) (hnd : ∀ (j : Nat) (o : Oper) c, ops[j]? = some o → o.op ≠ .defer c) (hq : ∀ a w, ¬ Q .outgrown a w)
    (h : wpOp P ops Q i K a w) : wpOpIn (Fence.wide.inRound l) n P ops Q i K a w := by
  unfold wpOp at h
  unfold wpOpIn
  cases ho : ops[i]? with
  | none => rw [ho] at h; exact h
  | some o =>
    rw [ho] at h
    simp only at h ⊢
    split
    · rename_i hw
      rw [if_pos hw] at h
      rcases h with h | ⟨_, a', w', h⟩
      · refine ⟨fun f _ => trivial, ?_⟩
        rw [Oper.semAt_eq _ _ _ (fun c => hnd i o c ho)]
        exact uponIn_of_upon l n h
      · exact absurd h (hq _ _)
    · rename_i hw
      rw [if_neg hw] at h
      exact ⟨fun f _ => trivial, h⟩
theorem wpAnyIn_of_wpAny (l n : Nat) (hnd : ∀ (j : Nat) (o : Oper) c, ops[j]? = some o → o.op ≠ .defer c) (hq : ∀ a w, ¬ Q .outgrown a w) :
    ∀ (fuel : Nat) (listed : Array Bool) (a : Act) (w : World), wpAny P md ops Q fuel listed a w → wpAnyIn (Fence.wide.inRound l) n P md ops Q fuel listed a w
  | 0, _, _, _, h => h
  | fuel + 1, listed, a, w, h => ⟨h.1, fun i hi => wpOpIn_of_wpOp l n hnd hq (wpOp_mono (fun a' w' h' => wpAnyIn_of_wpAny l n hnd hq fuel _ a' w' h') (h.2 i hi))⟩
def noDefer (ops : Array Oper) : Bool := ops.all fun o => match o.op with | .defer _ => false | _ => true
theorem noDefer_spec (h : noDefer ops = true) : ∀ (j : Nat) (o : Oper) c, ops[j]? = some o → o.op ≠ .defer c := by
  intro j o c ho hc
  simp only [noDefer, Array.all_eq_true] at h
  obtain ⟨hj, e⟩ := Array.getElem?_eq_some_iff.1 ho
  have := h j hj
  rw [e, hc] at this
  cases this
/-- A region in a round that draws its order: S is shown of the world behind the draw, then 'wpAnyH' as outside of a round. -/
theorem region_in_round (S : World → Prop) {id n l : Nat} {a : Act} {w : World} (hm : P.follows .mixedOrders = true) (hd : noDefer ops = true) (hq : ∀ a w, ¬ Q .outgrown a w) (hS : S w.drew)
    (h : S w.drew → wpAnyH P .any ops Q S ops.size (Array.replicate ops.size false) a w.drew) : (Code.region id ops true).wpIn (Fence.wide.inRound l) n P Q a w :=
  wpIn_region_any hm (wpAnyIn_of_wpAny l n (noDefer_spec hd) hq _ _ _ _ (wpAny_of_held _ _ _ _ (h hS)))
end

/-- Every block of cells, but those of F, is as it was. -/
def KpC (F : Nat → Prop) (W W' : World) : Prop := ∀ k c t fz, W.heap[k]? = some (.cells c t fz) → ¬ F k → W'.heap[k]? = some (.cells c t fz)
theorem KpC.refl (F : Nat → Prop) (W : World) : KpC F W W := fun _ _ _ _ h _ => h
theorem KpC.trans {F : Nat → Prop} {A B C : World} (h : KpC F A B) (k : KpC F B C) : KpC F A C := fun i c t fz hi hF => k i c t fz (h i c t fz hi hF) hF
theorem KpC.putObj {F : Nat → Prop} (W : World) (l : Nat) (o o' : Obj) (h : W.heap[l]? = some o) (ho : o.isCells = false) : KpC F W (W.putObj l o') := by
  intro k c t fz hk _
  by_cases e : k = l
  · subst e
    rw [h] at hk
    injection hk with hk
    subst hk
    simp [Obj.isCells] at ho
  · rw [World.putObj_heap_other e]
    exact hk
theorem KpC.of_below {F : Nat → Prop} {W W' : World} (h : Below W.heap.size W W') : KpC F W W' := fun k c t fz hk _ => (h.block k (Array.getElem?_eq_some_iff.1 hk).1).trans hk
theorem KpC.alloc {F : Nat → Prop} {W W' : World} (h : KpC F W W') (o : Obj) : KpC F W (W'.alloc o) := h.trans (KpC.of_below ((Below.refl _ _).alloc (Nat.le_refl _) o))
theorem KpC.drew {F : Nat → Prop} {W W' : World} (h : KpC F W W') : KpC F W W'.drew := h
theorem KpC.setCell {F : Nat → Prop} {W W' : World} (h : KpC F W W') {k i : Nat} (hF : F k) (u : Value) : KpC F W (W'.setCell ⟨k, i, none⟩ u) := by
  intro j c t fz hj hn
  have := h j c t fz hj hn
  rw [Below.heap_setCell _ _ _ _ (fun e => hn (by rw [e]; exact hF))]
  exact this

theorem blk_set {w : World} {g : Nat} {t : TypeId} {cs : Array Value} {fz : Nat × Nat} (h : w.heap[g]? = some (.cells cs t fz)) (i : Nat) (u : Value) : (w.setCell ⟨g, i, none⟩ u).heap[g]? = some (.cells (cs.setIfInBounds i u) t fz) := by
  simp [World.setCell, Array.getElem?_modify, h]
theorem blk_set_other {w : World} {g k : Nat} {o : Obj} (h : w.heap[k]? = some o) (hne : k ≠ g) (i : Nat) (u : Value) : (w.setCell ⟨g, i, none⟩ u).heap[k]? = some o :=
  (Below.heap_setCell w ⟨g, i, none⟩ u k hne).trans h
theorem cell_at {w : World} {g : Nat} {t : TypeId} {cs : Array Value} {fz : Nat × Nat} (h : w.heap[g]? = some (.cells cs t fz)) (i : Nat) : w.cell? ⟨g, i, none⟩ = cs[i]? := by
  simp [World.cell?, h]

theorem heap_alloc_at (w : World) (o : Obj) (k : Nat) (h : k = w.heap.size) : (w.alloc o).heap[k]? = some o := by subst h; exact heap_alloc_new w o
theorem heap_alloc_lt (w : World) (o o' : Obj) (k : Nat) (h : w.heap[k]? = some o') : (w.alloc o).heap[k]? = some o' := (Below.heap_alloc w o k (Array.getElem?_eq_some_iff.1 h).1).trans h
theorem alloc4 (w : World) (o0 o1 o2 o3 : Obj) (W : World) (h : (((w.alloc o0).alloc o1).alloc o2).alloc o3 = W) :
    W.heap[w.heap.size]? = some o0 ∧ W.heap[w.heap.size + 1]? = some o1 ∧ W.heap[w.heap.size + 2]? = some o2 ∧ W.heap[w.heap.size + 3]? = some o3 ∧ W.heap.size = w.heap.size + 4 ∧ Below w.heap.size w W := by
  subst h
  refine ⟨?_, ?_, ?_, ?_, ?_, ?_⟩
  · exact heap_alloc_lt _ _ _ _ (heap_alloc_lt _ _ _ _ (heap_alloc_lt _ _ _ _ (heap_alloc_new w o0)))
  · exact heap_alloc_lt _ _ _ _ (heap_alloc_lt _ _ _ _ (heap_alloc_at _ o1 _ (by simp)))
  · exact heap_alloc_lt _ _ _ _ (heap_alloc_at _ o2 _ (by simp))
  · exact heap_alloc_at _ o3 _ (by simp)
  · simp
  · exact ((((Below.refl _ _).alloc (Nat.le_refl _) _).alloc (by simp) _).alloc (by simp; omega) _).alloc (by simp; omega) _

theorem cells12 {w : World} {b t : Nat} {a0 a1 a2 a3 a4 a5 a6 a7 a8 a9 a10 a11 : Value} {fz : Nat × Nat} (h : w.heap[b]? = some (.cells #[a0, a1, a2, a3, a4, a5, a6, a7, a8, a9, a10, a11] t fz)) :
    w.cell? ⟨b, 0, none⟩ = some a0 ∧ w.cell? ⟨b, 1, none⟩ = some a1 ∧ w.cell? ⟨b, 2, none⟩ = some a2 ∧ w.cell? ⟨b, 3, none⟩ = some a3 ∧ w.cell? ⟨b, 4, none⟩ = some a4 ∧ w.cell? ⟨b, 5, none⟩ = some a5 ∧ w.cell? ⟨b, 6, none⟩ = some a6 ∧ w.cell? ⟨b, 7, none⟩ = some a7 ∧ w.cell? ⟨b, 8, none⟩ = some a8 ∧ w.cell? ⟨b, 9, none⟩ = some a9 ∧ w.cell? ⟨b, 10, none⟩ = some a10 ∧ w.cell? ⟨b, 11, none⟩ = some a11 := by
  refine ⟨?_, ?_, ?_, ?_, ?_, ?_, ?_, ?_, ?_, ?_, ?_, ?_⟩ <;> simp [World.cell?, h]
theorem frees12 {w : World} {b t : Nat} {cs : Array Value} (h : w.heap[b]? = some (.cells cs t (0, 0))) :
    w.frozen? ⟨b, 0, none⟩ = false ∧ w.frozen? ⟨b, 1, none⟩ = false ∧ w.frozen? ⟨b, 2, none⟩ = false ∧ w.frozen? ⟨b, 3, none⟩ = false ∧ w.frozen? ⟨b, 4, none⟩ = false ∧ w.frozen? ⟨b, 5, none⟩ = false ∧ w.frozen? ⟨b, 6, none⟩ = false ∧ w.frozen? ⟨b, 7, none⟩ = false ∧ w.frozen? ⟨b, 8, none⟩ = false ∧ w.frozen? ⟨b, 9, none⟩ = false ∧ w.frozen? ⟨b, 10, none⟩ = false ∧ w.frozen? ⟨b, 11, none⟩ = false := by
  refine ⟨?_, ?_, ?_, ?_, ?_, ?_, ?_, ?_, ?_, ?_, ?_, ?_⟩ <;> simp [World.frozen?, h]
theorem below_set0 {B k i : Nat} {w W : World} {u : Value} (h : Below B w W) (hk : B ≤ k) : Below B w (W.setCell ⟨k, i, none⟩ u) := h.setCell (p := ⟨k, i, none⟩) hk u
theorem below_set12 {B k : Nat} {w W : World} {a0 a1 a2 a3 a4 a5 a6 a7 a8 a9 a10 a11 : Value} (h : Below B w W) (hk : B ≤ k) :
    Below B w ((((((((((((W.setCell ⟨k, 0, none⟩ a0).setCell ⟨k, 1, none⟩ a1).setCell ⟨k, 2, none⟩ a2).setCell ⟨k, 3, none⟩ a3).setCell ⟨k, 4, none⟩ a4).setCell ⟨k, 5, none⟩ a5).setCell ⟨k, 6, none⟩ a6).setCell ⟨k, 7, none⟩ a7).setCell ⟨k, 8, none⟩ a8).setCell ⟨k, 9, none⟩ a9).setCell ⟨k, 10, none⟩ a10).setCell ⟨k, 11, none⟩ a11) :=
  below_set0 (below_set0 (below_set0 (below_set0 (below_set0 (below_set0 (below_set0 (below_set0 (below_set0 (below_set0 (below_set0 (below_set0 (h) hk) hk) hk) hk) hk) hk) hk) hk) hk) hk) hk) hk
theorem cell_set_other {w : World} {g k i j : Nat} {u : Value} (hne : k ≠ g) : (w.setCell ⟨g, i, none⟩ u).cell? ⟨k, j, none⟩ = w.cell? ⟨k, j, none⟩ := World.cell?_of_block (Below.heap_setCell w ⟨g, i, none⟩ u k hne)
theorem keeps_drew {W W' : World} (h : KeepsOthers W W') : KeepsOthers W W'.drew := ⟨h.size, h.same⟩

theorem blk_set12 {w : World} {k t : Nat} {b0 b1 b2 b3 b4 b5 b6 b7 b8 b9 b10 b11 a0 a1 a2 a3 a4 a5 a6 a7 a8 a9 a10 a11 : Value} {fz : Nat × Nat} (h : w.heap[k]? = some (.cells #[b0, b1, b2, b3, b4, b5, b6, b7, b8, b9, b10, b11] t fz)) :
    ((((((((((((w.setCell ⟨k, 0, none⟩ a0).setCell ⟨k, 1, none⟩ a1).setCell ⟨k, 2, none⟩ a2).setCell ⟨k, 3, none⟩ a3).setCell ⟨k, 4, none⟩ a4).setCell ⟨k, 5, none⟩ a5).setCell ⟨k, 6, none⟩ a6).setCell ⟨k, 7, none⟩ a7).setCell ⟨k, 8, none⟩ a8).setCell ⟨k, 9, none⟩ a9).setCell ⟨k, 10, none⟩ a10).setCell ⟨k, 11, none⟩ a11).heap[k]? = some (.cells #[a0, a1, a2, a3, a4, a5, a6, a7, a8, a9, a10, a11] t fz) := by
  refine (blk_set ((blk_set ((blk_set ((blk_set ((blk_set ((blk_set ((blk_set ((blk_set ((blk_set ((blk_set ((blk_set ((blk_set (h) 0 a0)) 1 a1)) 2 a2)) 3 a3)) 4 a4)) 5 a5)) 6 a6)) 7 a7)) 8 a8)) 9 a9)) 10 a10)) 11 a11).trans ?_
  simp

theorem heap_set12 {w : World} {k D : Nat} {o : Obj} {a0 a1 a2 a3 a4 a5 a6 a7 a8 a9 a10 a11 : Value} (h : w.heap[D]? = some o) (hne : D ≠ k) : ((((((((((((w.setCell ⟨k, 0, none⟩ a0).setCell ⟨k, 1, none⟩ a1).setCell ⟨k, 2, none⟩ a2).setCell ⟨k, 3, none⟩ a3).setCell ⟨k, 4, none⟩ a4).setCell ⟨k, 5, none⟩ a5).setCell ⟨k, 6, none⟩ a6).setCell ⟨k, 7, none⟩ a7).setCell ⟨k, 8, none⟩ a8).setCell ⟨k, 9, none⟩ a9).setCell ⟨k, 10, none⟩ a10).setCell ⟨k, 11, none⟩ a11).heap[D]? = some o :=
  blk_set_other (blk_set_other (blk_set_other (blk_set_other (blk_set_other (blk_set_other (blk_set_other (blk_set_other (blk_set_other (blk_set_other (blk_set_other (blk_set_other (h) hne _ _) hne _ _) hne _ _) hne _ _) hne _ _) hne _ _) hne _ _) hne _ _) hne _ _) hne _ _) hne _ _) hne _ _

theorem alloc3 (w : World) (o0 o1 o2 : Obj) (W : World) (h : ((w.alloc o0).alloc o1).alloc o2 = W) :
    W.heap[w.heap.size]? = some o0 ∧ W.heap[w.heap.size + 1]? = some o1 ∧ W.heap[w.heap.size + 2]? = some o2 ∧ W.heap.size = w.heap.size + 3 ∧ Below w.heap.size w W := by
  subst h
  refine ⟨?_, ?_, ?_, ?_, ?_⟩
  · exact heap_alloc_lt _ _ _ _ (heap_alloc_lt _ _ _ _ (heap_alloc_new w o0))
  · exact heap_alloc_lt _ _ _ _ (heap_alloc_at _ o1 _ (by simp))
  · exact heap_alloc_at _ o2 _ (by simp)
  · simp
  · exact (((Below.refl _ _).alloc (Nat.le_refl _) _).alloc (by simp) _).alloc (by simp; omega) _

theorem cells_grown {W W' : World} {row : Option Nat} {k : Nat} {c : Array Value} {t : TypeId} {fz : Nat × Nat} (h : W.heap[k]? = some (.cells c t fz)) (hg : W.grownBy W' row)
    (hr : ∀ r, row = some r → ∃ o : Obj, W.heap[r]? = some o ∧ o.isCells = false) : W'.heap[k]? = some (.cells c t fz) := by
  refine (hg.block k (Array.getElem?_eq_some_iff.1 h).1 ?_).trans h
  intro e
  obtain ⟨o, ho, hc⟩ := hr k e.symm
  rw [h] at ho
  injection ho with ho
  subst ho
  simp [Obj.isCells] at hc

/-- A loop over an iterator, at the wide fence; the iterator's contract asks that blocks of cells but those of F be kept. -/
theorem wp_rangeFunc {P : Program} {α : Type} {g : Operand} {ps : Array Tmp} {assign body : Code} {Q : Exit → Act → World → Prop} {a : Act} {w : World}
    {gf : Nat} {lb : Array Value} (hg : a.eval g = .func (.func gf) #[] lb) (eg : ∀ args w, (callFunc gf args).run P w = .ok (.enter gf args) w)
    {encs : α → Array Value} {F : Nat → Prop} {S Sp : List α → Prop} {N : Nat} (hseq : SeqStopsK Fence.wide 2 P gf lb encs (KpC F) S Sp N w) (hps : ∀ x, (encs x).size = ps.size)
    (I : List α → World → Prop) (Ix : Code → List α → World → Prop) (hI : OwnFrom w.heap.size I) (hIx : ∀ c, OwnFrom w.heap.size (Ix c)) (h0 : I [] w) (a₁ : α → Act)
    (hassign : ∀ (l : Nat) (x : α) (W : World) (K : Act → World → Prop), K (a₁ x) W →
      assign.wpIn (Fence.wide.inRound l) 1 P (Exit.then K (fun _ _ _ => False)) { tmps := (ps.zip (encs x)).foldl (fun t (p, v) => t.setIfInBounds p v) a.tmps, defers := [] } W)
    (hbody : ∀ (l : Nat) (pre : List α) (x : α) (W : World), I pre W → pre.length < N → body.wpIn (Fence.wide.inRound l) 1 P (ownPostK (KpC F) I Ix (pre ++ [x]) W) (a₁ x) W)
    (hdone : ∀ (D : Nat) (xs : List α) (W : World), w.heap.size ≤ D → S xs → I xs W → W.heap[D]? = some (.deferred (some [])) → Q .normal { a with defers := { target := .collected D, args := #[] } :: a.defers } W)
    (hstop : ∀ (D : Nat) (c : Code) (pre : List α) (W : World), w.heap.size ≤ D → Sp pre → Ix c pre W → W.heap[D]? = some (.deferred (some [])) → c.wp P Q { a with defers := { target := .collected D, args := #[] } :: a.defers } W) :
    (Code.rangeFunc g ps assign body).wp P Q a w :=
  wpIn_wide.1 (wpIn_rangeFunc_ownF (F := Fence.wide) (n := 3) rfl (by omega) hg trivial eg hseq (fun h k => h.trans k) (fun W l o o' _ h ho _ => KpC.putObj W l o o' h ho) (Below.refl _ _) hps I Ix hI hIx h0 a₁ hassign hbody hdone
    (fun D c pre W hD hS hX hK => wpIn_wide.2 (hstop D c pre W hD hS hX hK)))
theorem below_putD {B D : Nat} {w W : World} (h : Below B w W) (hD : B ≤ D) {o o' : Obj} (hK : W.heap[D]? = some o) : Below B w (W.putObj D o') :=
  h.grown (grownBy_putObj' W D o') (by have := (Array.getElem?_eq_some_iff.1 hK).1; omega) (fun k e => by cases e; exact hD)
end Go.Proofs.Ytacdohlhalnioaa
end

/- Regions that draw their order: a law for regions that end in stores. S (what the loads read) is kept by every operation but the last ones, st, which wait for whatever reads. Without the program. -/
section
set_option linter.unusedSimpArgs false
set_option linter.unusedVariables false
namespace Go.Proofs.Ytacdohlhalnioaa
open Go.RowKit

section
variable {P : Program} {ops : Array Oper} {Q : Exit → Act → World → Prop} {md : Region.Mode} {S : World → Prop} {st : List Nat}

def wpP (P : Program) (md : Region.Mode) (ops : Array Oper) (Q : Exit → Act → World → Prop) (S : World → Prop) (st : List Nat) : Nat → Array Bool → Act → World → Prop
  | 0, listed, a, w => Region.ready md ops listed = [] ∧ Q .normal a w
  | fuel + 1, listed, a, w =>
    (Region.ready md ops listed = [] → Q .normal a w) ∧
    ∀ i ∈ Region.ready md ops listed, wpOp P ops Q i (fun a' w' => (st.contains i = false → S w') ∧ wpP P md ops Q S st fuel (listed.setIfInBounds i true) a' w') a w

theorem wpAny_of_P : ∀ (fuel : Nat) (listed : Array Bool) (a : Act) (w : World), wpP P md ops Q S st fuel listed a w → wpAny P md ops Q fuel listed a w
  | 0, _, _, _, h => h
  | fuel + 1, _, _, _, h => ⟨h.1, fun i hi => wpOp_mono (fun a' w' h' => wpAny_of_P fuel _ a' w' h'.2) (h.2 i hi)⟩

/-- Each of st waits for i. -/
def waitAll (md : Region.Mode) (ops : Array Oper) (st : List Nat) (i : Nat) : Bool := !st.contains i && st.all fun j => match ops[j]? with
  | some o => o.after.any fun e => Region.binds md e && e.on == i
  | none => false
theorem waitAll_not {i : Nat} (h : waitAll md ops st i = true) : st.contains i = false := by
  simp only [waitAll, Bool.and_eq_true, Bool.not_eq_true'] at h
  exact h.1
theorem waitAll_spec {i : Nat} (h : waitAll md ops st i = true) {j : Nat} {oj : Oper} (hj : ops[j]? = some oj) (hno : ∀ (e : Edge), e ∈ oj.after → Region.binds md e = true → e.on ≠ i) : st.contains j = false := by
  cases hc : st.contains j with
  | false => rfl
  | true =>
    simp only [waitAll, Bool.and_eq_true, List.all_eq_true] at h
    have := h.2 j (by simpa using hc)
    rw [hj] at this
    simp only [Array.any_eq_true, Bool.and_eq_true, beq_iff_eq] at this
    obtain ⟨x, hx, h1, h2⟩ := this
    exact absurd h2 (hno _ (Array.getElem_mem hx) h1)

theorem wpP_first {i : Nat} {oi : Oper} {v : Value} (hi : ops[i]? = some oi) (hsel : ∀ (j : Nat) (o : Oper) cs b, ops[j]? = some o → o.op ≠ .select cs b)
    (hQ : ∀ c a w, Q (.panic c) (a.put oi.dst v) w → Q (.panic c) a w) (hst : waitAll md ops st i = true) :
    ∀ (fuel : Nat) (listed : Array Bool) (a : Act) (w : World),
      (∀ j oj, ops[j]? = some oj → j ≠ i → listed.getD j true = false → (∀ e ∈ oj.after, Region.binds md e = true → e.on ≠ i) → oi.apart ops oj = true) →
      i ∈ Region.ready md ops listed → YieldsIf P ops S oi v a → S w →
      wpP P md ops Q S st fuel (listed.setIfInBounds i true) (a.put oi.dst v) w → wpP P md ops Q S st (fuel + 1) listed a w := by
  intro fuel
  induction fuel with
  | zero =>
    intro listed a w _ hr hy hS H
    refine ⟨fun h => (by rw [h] at hr; cases hr), fun j hj => ?_⟩
    by_cases hji : j = i
    · subst hji; exact hy.wpOp hi hS ⟨fun _ => hS, H⟩
    · have := ready_mono hj hji
      rw [H.1] at this
      cases this
  | succ fuel ih =>
    intro listed a w hfree hr hy hS H
    refine ⟨fun h => (by rw [h] at hr; cases hr), fun j hj => ?_⟩
    by_cases hji : j = i
    · subst hji; exact hy.wpOp hi hS ⟨fun _ => hS, H⟩
    · have h1 := H.2 j (ready_mono hj hji)
      obtain ⟨hjun, oj, hoj, hall⟩ := mem_ready.1 hj
      have hnot : ∀ e ∈ oj.after, Region.binds md e = true → e.on ≠ i := fun e he hb heq => by
        have g1 := hall e he hb
        have g0 := (mem_ready.1 hr).1
        rw [heq] at g1
        rcases Nat.lt_or_ge i listed.size with h' | h'
        · simp [h'] at g0 g1; rw [g0] at g1; cases g1
        · simp [Array.getElem?_eq_none h'] at g1
      have hsj := waitAll_spec hst hoj hnot
      have h2 := wpOp_putIf hoj (hfree j oj hoj hji hjun hnot) (fun cs b => hsel i oi cs b hi) (fun cs b => hsel j oj cs b hoj) hQ hy h1
      have hfree' : ∀ k ok, ops[k]? = some ok → k ≠ i → (listed.setIfInBounds j true).getD k true = false →
          (∀ e ∈ ok.after, Region.binds md e = true → e.on ≠ i) → oi.apart ops ok = true := fun k ok hk hki hun hno => by
        refine hfree k ok hk hki ?_ hno
        by_cases hjk : j = k
        · subst hjk; exact hjun
        · rw [getD_set_ne true hjk] at hun; exact hun
      refine wpOp_mono (fun a' w' h3 => ⟨fun _ => h3.2.1 hsj, ih (listed.setIfInBounds j true) a' w' hfree' (ready_mono hr (Ne.symm hji)) h3.1 (h3.2.1 hsj) ?_⟩) h2
      rw [Array.setIfInBounds_comm _ _ hji]
      exact h3.2.2

theorem wpP_take {i : Nat} {oi : Oper} {v : Value} {fuel : Nat} {listed : Array Bool} {a : Act} {w : World} (hi : ops[i]? = some oi)
    (hs : Region.noSelect ops = true) (hf : Region.free md ops listed i = true) (hr : (Region.ready md ops listed).contains i = true) (hst : waitAll md ops st i = true)
    (hQ : ∀ c a w, Q (.panic c) (a.put oi.dst v) w → Q (.panic c) a w) (hy : YieldsIf P ops S oi v a) (hS : S w)
    (h : wpP P md ops Q S st fuel (listed.setIfInBounds i true) (a.put oi.dst v) w) : wpP P md ops Q S st (fuel + 1) listed a w :=
  wpP_first hi (Region.noSelect_spec hs) hQ hst fuel listed a w (Region.free_spec hi hf) (by simpa using hr) hy hS h

/-- Is the operation i, which writes the slot d, not wanted? -/
def noB (ops : Array Oper) (i d : Nat) (tmps : Array Value) : Bool := match ops[i]? with
  | some o => decide (o.dst = some d) && !Region.wanted o (yielded ops tmps)
  | none => false
/-- An operation that is not wanted is taken first. -/
theorem wpP_skip (i d : Nat) {fuel : Nat} {listed : Array Bool} {a : Act} {w : World}
    (h : noB ops i d a.tmps = true) (hs : Region.noSelect ops = true) (hf : Region.free md ops listed i = true) (hr : (Region.ready md ops listed).contains i = true) (hst : waitAll md ops st i = true)
    (hQ : ∀ c a w, Q (.panic c) (a.put (some d) undef) w → Q (.panic c) a w) (hS : S w)
    (rest : wpP P md ops Q S st fuel (listed.setIfInBounds i true) (a.put (some d) undef) w) : wpP P md ops Q S st (fuel + 1) listed a w := by
  unfold noB at h
  cases ho : ops[i]? with
  | none => rw [ho] at h; cases h
  | some o =>
    rw [ho] at h
    simp only [Bool.and_eq_true, decide_eq_true_eq, Bool.not_eq_true'] at h
    obtain ⟨h1, h2⟩ := h
    exact wpP_take ho hs hf hr hst (by rw [h1]; exact hQ) (.inr ⟨h2, rfl⟩) hS (by rw [h1]; exact rest)

def AllP (P : Program) (md : Region.Mode) (ops : Array Oper) (Q : Exit → Act → World → Prop) (S : World → Prop) (st : List Nat) (fuel : Nat) (listed : Array Bool) (a : Act) (w : World) (rs : List Nat) : Prop :=
  ∀ i ∈ rs, wpOp P ops Q i (fun a' w' => (st.contains i = false → S w') ∧ wpP P md ops Q S st fuel (listed.setIfInBounds i true) a' w') a w
theorem AllP.nil {fuel : Nat} {listed : Array Bool} {a : Act} {w : World} : AllP P md ops Q S st fuel listed a w [] := fun _ h => by cases h
theorem AllP.cons {fuel : Nat} {listed : Array Bool} {a : Act} {w : World} {i : Nat} {o : Oper} {rs : List Nat} (ho : ops[i]? = some o)
    (h : ∀ K' : Act → World → Prop, Shut (∀ a w, S w → (S w → wpP P md ops Q S st fuel (listed.setIfInBounds i true) a w) → K' a w) → if Region.wanted o (yielded ops a.tmps) = true then Oper.wp P o a w K' Q else K' (a.put o.dst undef) w)
    (hs : AllP P md ops Q S st fuel listed a w rs) : AllP P md ops Q S st fuel listed a w (i :: rs) := fun j hj => by
  rcases List.mem_cons.1 hj with rfl | hj
  · exact wpOp_step ho (fun K' hK => h K' (fun a w hS hW => hK a w ⟨fun _ => hS, hW hS⟩))
  · exact hs j hj
/-- One of the last ones: S is not asked behind it. -/
theorem AllP.last {fuel : Nat} {listed : Array Bool} {a : Act} {w : World} {i : Nat} {o : Oper} {rs : List Nat} (ho : ops[i]? = some o) (hl : st.contains i = true)
    (h : ∀ K' : Act → World → Prop, Shut (∀ a w, wpP P md ops Q S st fuel (listed.setIfInBounds i true) a w → K' a w) → if Region.wanted o (yielded ops a.tmps) = true then Oper.wp P o a w K' Q else K' (a.put o.dst undef) w)
    (hs : AllP P md ops Q S st fuel listed a w rs) : AllP P md ops Q S st fuel listed a w (i :: rs) := fun j hj => by
  rcases List.mem_cons.1 hj with rfl | hj
  · exact wpOp_step ho (fun K' hK => h K' (fun a w hW => hK a w ⟨(fun e => by rw [hl] at e; cases e), hW⟩))
  · exact hs j hj
theorem wpP_ready {rs : List Nat} {fuel : Nat} {listed : Array Bool} {a : Act} {w : World} (hr : Region.ready md ops listed = rs) (hne : rs ≠ [])
    (h : AllP P md ops Q S st fuel listed a w rs) : wpP P md ops Q S st (fuel + 1) listed a w :=
  ⟨fun h0 => absurd (hr ▸ h0) hne, fun i hi => h i (hr ▸ hi)⟩
theorem wpP_done {listed : Array Bool} {a : Act} {w : World} (hr : Region.ready md ops listed = []) (h : Q .normal a w) : ∀ fuel, wpP P md ops Q S st fuel listed a w
  | 0 => ⟨hr, h⟩
  | _ + 1 => ⟨fun _ => h, fun i hi => by rw [hr] at hi; cases hi⟩
theorem region_P (S : World → Prop) (st : List Nat) {id : Nat} {a : Act} {w : World} (hm : P.follows .mixedOrders = true) (hS : S w.drew)
    (h : S w.drew → wpP P .any ops Q S st ops.size (Array.replicate ops.size false) a w.drew) : (Code.region id ops true).wp P Q a w :=
  wp_region_any hm (wpAny_of_P _ _ _ _ (h hS))
theorem region_P_in_round (S : World → Prop) (st : List Nat) {id n l : Nat} {a : Act} {w : World} (hm : P.follows .mixedOrders = true) (hd : noDefer ops = true) (hq : ∀ a w, ¬ Q .outgrown a w) (hS : S w.drew)
    (h : S w.drew → wpP P .any ops Q S st ops.size (Array.replicate ops.size false) a w.drew) : (Code.region id ops true).wpIn (Fence.wide.inRound l) n P Q a w :=
  wpIn_region_any hm (wpAnyIn_of_wpAny l n (noDefer_spec hd) hq _ _ _ _ (wpAny_of_P _ _ _ _ (h hS)))
end
end Go.Proofs.Ytacdohlhalnioaa
end

/- A walk that doesn't panic, under any post: without the program. -/
section
set_option linter.unusedSimpArgs false
namespace Go.Proofs.Ytacdohlhalnioaa
open Go.RowKit

def NoPanic (Q : Exit → Act → World → Prop) : Exit → Act → World → Prop := fun e a w => (∀ c, e ≠ .panic c) ∧ Q e a w
theorem wp_noPanic {P : Program} {c : Code} {Q : Exit → Act → World → Prop} {a : Act} {w : World} (h : c.wp P (NoPanic Q) a w) : c.wp P Q a w := Code.wp_mono (fun _ _ _ h => h.2) h
theorem noPanic_normal {Q : Exit → Act → World → Prop} {a : Act} {w : World} (h : Q .normal a w) : NoPanic Q .normal a w := ⟨(by intro c hc; cases hc), h⟩
end Go.Proofs.Ytacdohlhalnioaa
end

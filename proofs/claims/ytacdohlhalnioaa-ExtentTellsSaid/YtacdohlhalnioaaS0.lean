/- Lists of bytes, numbers of bytes, and volumes as lists: plain definitions and lemmas, without the program. -/
import Derived.Below
namespace Go.Proofs.Ytacdohlhalnioaa

abbrev Blk := List UInt8
abbrev Vol := List Blk

/-- The string of some bytes. -/
def mk (l : Blk) : ByteArray := ⟨l.toArray⟩
theorem mk_fold (l : Blk) : ByteArray.mk l.toArray = mk l := rfl
theorem mk_inj {a b : Blk} (h : mk a = mk b) : a = b := by
  have := congrArg (fun s : ByteArray => s.data.toList) h
  simpa [mk] using this
theorem mk_of (s : ByteArray) : mk s.data.toList = s := by
  rcases s with ⟨⟨l⟩⟩; rfl
theorem mk_ex (s : ByteArray) : ∃ l, s = mk l := ⟨_, (mk_of s).symm⟩
@[simp] theorem mk_toList (l : Blk) : (mk l).data.toList = l := rfl
@[simp] theorem mk_size (l : Blk) : (mk l).size = l.length := by show l.toArray.size = _; simp
@[simp] theorem mk_append (a b : Blk) : mk a ++ mk b = mk (a ++ b) := by
  have h : ∀ s : ByteArray, mk s.data.toList = s := mk_of
  rw [← h (mk a ++ mk b)]
  congr 1
@[simp] theorem mk_extract (l : Blk) (a b : Nat) : (mk l).extract a b = mk ((l.drop a).take (b - a)) := by
  rw [← mk_of ((mk l).extract a b)]
  congr 1
  rw [ByteArray.data_extract]
  simp [mk]
/-- The byte at a place, as a number. -/
def gb (l : Blk) (i : Nat) : Nat := (l.getD i 0).toNat
theorem gb_lt (l : Blk) (i : Nat) : gb l i < 256 := (l.getD i 0).toNat_lt
theorem mk_getElem (l : Blk) (i : Nat) (h : i < (mk l).size) : ((mk l)[i]'h).toNat = gb l i := by
  have h' : i < l.length := by simpa using h
  show (l.toArray[i]'(by simpa using h')).toNat = _
  simp [gb, List.getD_eq_getElem?_getD, h']

/-- The number of bytes, the lowest one first. -/
def le : Blk → Nat
  | [] => 0
  | c :: r => c.toNat + 256 * le r
/-- The lowest bytes of a number. -/
def ple (n : Nat) : Nat → Blk
  | 0 => []
  | k + 1 => UInt8.ofNat n :: ple (n / 256) k
/-- The number of two bytes. -/
def w2 (l : Blk) (i : Nat) : Nat := gb l i + 256 * gb l (i + 1)
/-- So many zeros. -/
def zs (n : Nat) : Blk := List.replicate n 0
/-- The block at a place of a volume. -/
def bk (v : Vol) (i : Nat) : Blk := v.getD i []
/-- A bit of a map. -/
def bit (m : Blk) (i : Nat) : Bool := (gb m (i / 8)) / 2 ^ (i % 8) % 2 == 1
/-- A map with a bit turned. -/
def turn (m : Blk) (i : Nat) : Blk := m.set (i / 8) (UInt8.ofNat (gb m (i / 8) ^^^ 2 ^ (i % 8)))

@[simp] theorem ple_length (n k : Nat) : (ple n k).length = k := by
  induction k generalizing n with
  | zero => rfl
  | succ k ih => simp [ple, ih]
@[simp] theorem zs_length (n : Nat) : (zs n).length = n := by simp [zs]
@[simp] theorem turn_length (m : Blk) (i : Nat) : (turn m i).length = m.length := by simp [turn]
theorem le_lt (l : Blk) : le l < 256 ^ l.length := by
  induction l with
  | nil => simp [le]
  | cons c r ih =>
    have hc := c.toNat_lt
    simp only [le, List.length_cons, Nat.pow_succ]
    omega
theorem le_snoc (l : Blk) (c : UInt8) : le (l ++ [c]) = le l + c.toNat * 256 ^ l.length := by
  induction l with
  | nil => simp [le]
  | cons d r ih =>
    simp only [List.cons_append, le, ih, List.length_cons, Nat.pow_succ]
    rw [Nat.mul_add, Nat.mul_comm (256 ^ r.length) 256, ← Nat.mul_assoc c.toNat, Nat.mul_comm c.toNat 256, Nat.mul_assoc, Nat.add_assoc]
theorem le_two (l : Blk) (h : l.length = 2) : le l = w2 l 0 := by
  match l, h with
  | [a, b], _ => simp [le, w2, gb]
theorem gb_drop (l : Blk) (a i : Nat) : gb (l.drop a) i = gb l (a + i) := by simp [gb, List.getD_eq_getElem?_getD]
theorem gb_take (l : Blk) (n i : Nat) (h : i < n) : gb (l.take n) i = gb l i := by simp [gb, List.getD_eq_getElem?_getD, h]
theorem w2_drop (l : Blk) (a i : Nat) : w2 (l.drop a) i = w2 l (a + i) := by simp [w2, gb_drop, Nat.add_assoc]
theorem w2_take (l : Blk) (n i : Nat) (h : i + 1 < n) : w2 (l.take n) i = w2 l i := by rw [w2, w2, gb_take _ _ _ (by omega), gb_take _ _ _ h]
theorem w2_lt (l : Blk) (i : Nat) : w2 l i < 65536 := by
  have := gb_lt l i; have := gb_lt l (i + 1); unfold w2; omega
end Go.Proofs.Ytacdohlhalnioaa

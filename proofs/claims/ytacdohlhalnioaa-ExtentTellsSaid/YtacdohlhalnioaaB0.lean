/- The walk's own arithmetic on bytes, in plain numbers; rows of bytes in memory. Without the program. -/
import Derived.Laws.BitsAllLaws
import Derived.Test.YtacdohlhalnioaaM0
namespace Go.Proofs.Ytacdohlhalnioaa
open Go.RowKit

theorem int_pow (a b : Nat) : ((a : Int)) ^ b = ((a ^ b : Nat) : Int) := by simp
theorem two_pow (b : Nat) : (2 : Int) ^ b = ((2 ^ b : Nat) : Int) := by simp

theorem has_bits (m : Blk) (i : Nat) : (bits BinOp.and IntKind.u8 ((gb m (i / 8) : Int) / 2 ^ (i % 8)) 1 == 1) = bit m i := by
  have h := gb_lt m (i / 8)
  have e : ((gb m (i / 8) : Nat) : Int) / 2 ^ (i % 8) = ((gb m (i / 8) / 2 ^ (i % 8) : Nat) : Int) := by rw [two_pow]; rfl
  have hlt : gb m (i / 8) / 2 ^ (i % 8) < 256 := Nat.lt_of_le_of_lt (Nat.div_le_self _ _) h
  rw [e, show (1 : Int) = ((1 : Nat) : Int) from rfl, u8_and_nat _ _ hlt (by omega), nat_mask1]
  unfold bit
  rw [Bool.eq_iff_iff]
  simp only [beq_iff_eq]
  omega

theorem take_succ_blk (s : Blk) (k : Nat) (h : k < s.length) : s.take (k + 1) = s.take k ++ [UInt8.ofNat (gb s k)] := by
  rw [List.take_succ_eq_append_getElem h]
  congr 2
  simp [gb, h]
theorem pow256 (k : Nat) : 256 ^ k = 2 ^ (8 * k) := by rw [show (256 : Nat) = 2 ^ 8 from rfl, ← Nat.pow_mul]
theorem le_take_succ (s : Blk) (k : Nat) (h : k < s.length) : le (s.take (k + 1)) = le (s.take k) + gb s k * 2 ^ (8 * k) := by
  rw [take_succ_blk s k h, le_snoc, List.length_take, Nat.min_eq_left (by omega), pow256]
  congr 1
  have := gb_lt s k
  rw [UInt8.toNat_ofNat', Nat.mod_eq_of_lt this]
theorem get_step (s : Blk) (k : Nat) (h : k < s.length) (h8 : s.length ≤ 8) :
    bits BinOp.or IntKind.u64 ((le (s.take k) : Nat) : Int) (IntKind.u64.wrap (IntKind.u64.wrap ((gb s k : Nat) : Int) * 2 ^ (8 * k))) = ((le (s.take (k + 1)) : Nat) : Int) := by
  have hg := gb_lt s k
  have hl : le (s.take k) < 2 ^ (8 * k) := by
    have := le_lt (s.take k)
    rwa [List.length_take, Nat.min_eq_left (by omega), pow256] at this
  have hp : 2 ^ (8 * k) ≤ 2 ^ 56 := Nat.pow_le_pow_right (by omega) (by omega)
  have hprod : gb s k * 2 ^ (8 * k) < 256 * 2 ^ (8 * k) := Nat.mul_lt_mul_of_pos_right hg (Nat.pow_pos (by omega))
  have e1 : IntKind.u64.wrap ((gb s k : Nat) : Int) = ((gb s k : Nat) : Int) := by
    simp [IntKind.wrap, IntKind.bits, IntKind.signed]; omega
  have e2 : IntKind.u64.wrap (((gb s k : Nat) : Int) * 2 ^ (8 * k)) = ((gb s k * 2 ^ (8 * k) : Nat) : Int) := by
    rw [two_pow, ← Int.natCast_mul]
    simp only [IntKind.wrap, IntKind.bits, IntKind.signed]
    generalize gb s k * 2 ^ (8 * k) = z at hprod ⊢
    simp
    omega
  rw [e1, e2, u64_or_nat _ _ (by omega) (by omega), le_take_succ s k h, Nat.or_comm, Nat.add_comm]
  congr 1
  exact nat_join (8 * k) _ _ (by simp) hl

/-- Bytes as the cells of a row. -/
def bvs (l : Blk) : Array Value := (l.map fun c => Value.int .u8 c.toNat).toArray
theorem bvs_size (l : Blk) : (bvs l).size = l.length := by simp [bvs]
theorem bvs_get (l : Blk) (j : Nat) (h : j < l.length) : (bvs l)[j]? = some (.int .u8 (gb l j)) := by simp [bvs, gb, h]
theorem bvs_set (l : Blk) (j : Nat) (n : Nat) (h : n < 256) : (bvs l).setIfInBounds j (.int .u8 n) = bvs (l.set j (UInt8.ofNat n)) := by
  simp only [bvs, List.setIfInBounds_toArray]
  congr 1
  rw [List.map_set, UInt8.toNat_ofNat', Nat.mod_eq_of_lt h]

section
variable {P : Program}
/-- make([]byte, m). -/
theorem make_u8 (t e : TypeId) (i : TypeInfo) (ht : P.underlying t = some (.slice e)) (hi : P.info? e = some i) (hz : i.zero = some (.int .u8 0)) (hs : i.size = 1) (hb : i.bytes = 1) (m : Nat) (hm : m ≤ 281474976710656) (W : World) :
    (Instr.makeSlice t (.int .i64 (m : Int)) (.int .i64 (m : Int))).run P W = .ok (.slice (some ⟨W.heap.size, 0, none⟩) m m) (W.alloc (.cells (bvs (zs m)) e)) := by
  rw [run_make W t e i (.int .u8 0) ht hi hz .i64 .i64 m m (by omega) (by omega) (by rw [hb]; omega) (by omega)]
  simp only [hs, Int.toNat_natCast, Nat.mul_one]
  congr 3
  simp only [madeCells, Value.cells, bvs, zs]
  apply Array.ext
  · simp
  · intro j h1 h2
    simp [Nat.mod_one]
/-- string(b), b a row of bytes. -/
theorem str_u8 (src dst e : TypeId) (hs : P.underlying src = some (.slice e)) (he : P.underlying e = some (.int .u8)) (hd : P.underlying dst = some .string) (W : World) (b off n c : Nat) (l : Blk) (hl : l.length = n)
    (hc : ∀ j, j < n → W.cell? ⟨b, off + j, none⟩ = some (.int .u8 (gb l j))) :
    (convert src dst (.slice (some ⟨b, off, none⟩) n c)).run P W = .ok (.string (mk l)) W := by
  rw [run_convert_bytes_arg W src e hs he b off n c (l.map fun c => (c.toNat : Int)) (by simpa using hl) (fun j hj => by
    rw [hc j hj]; simp [gb, List.getElem?_eq_getElem (show j < l.length by omega)]) dst hd]
  congr 2
  simp only [strOfNums, mk, List.map_map]
  congr 2
  rw [List.map_congr_left (g := id) (fun a _ => by simp), List.map_id]
theorem str_u8_nil (src dst e : TypeId) (hs : P.underlying src = some (.slice e)) (he : P.underlying e = some (.int .u8)) (hd : P.underlying dst = some .string) (W : World) (n c : Nat) :
    (convert src dst (.slice none n c)).run P W = .ok (.string (mk [])) W := run_convert_bytes_nil W src e hs he n c dst hd
end
end Go.Proofs.Ytacdohlhalnioaa

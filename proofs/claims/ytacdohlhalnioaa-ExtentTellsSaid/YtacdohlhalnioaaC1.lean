/- Contracts of the smallest functions. -/
import Derived.Test.YtacdohlhalnioaaProg
import Derived.Test.YtacdohlhalnioaaB0
namespace Go.Proofs.Ytacdohlhalnioaa
open Go.RowKit

def putc (n k j : Nat) : Blk := (ple n k).take j ++ zs (k - j)
theorem putc_length (n k j : Nat) (h : j ≤ k) : (putc n k j).length = k := by simp [putc, ple_length, zs_length]; omega
theorem ple_get (n k j : Nat) (h : j < k) : (ple n k)[j]? = some (UInt8.ofNat (n / 256 ^ j)) := by
  induction k generalizing n j with
  | zero => omega
  | succ k ih =>
    cases j with
    | zero => simp [ple]
    | succ j => rw [ple, List.getElem?_cons_succ, ih _ _ (by omega), Nat.div_div_eq_div_mul, Nat.pow_succ, Nat.mul_comm]
theorem put_step (n k j : Nat) (h : j < k) : (bvs (putc n k j)).setIfInBounds j (.int .u8 ((n : Int) / 2 ^ (8 * j) % 256)) = bvs (putc n k (j + 1)) := by
  have e : (n : Int) / 2 ^ (8 * j) % 256 = ((n / 256 ^ j % 256 : Nat) : Int) := by rw [two_pow, pow256]; simp
  rw [e, bvs_set _ _ _ (Nat.mod_lt _ (by omega))]
  congr 1
  unfold putc
  rw [List.set_append_right _ _ (by rw [List.length_take, ple_length]; omega)]
  have hl : ((ple n k).take j).length = j := by rw [List.length_take, ple_length]; omega
  rw [hl, Nat.sub_self, show k - j = k - (j + 1) + 1 from by omega, zs, List.replicate_succ, List.set_cons_zero, List.take_add_one, ple_get n k j h]
  simp [zs]
  apply UInt8.toNat_inj.1
  simp
theorem str_of_u8 (W : World) (b off n c : Nat) (l : Blk) (hl : l.length = n) (hc : ∀ j, j < n → W.cell? ⟨b, off + j, none⟩ = some (.int .u8 (gb l j))) :
    (convert 62 9 (.slice (some ⟨b, off, none⟩) n c)).run Try.prog W = .ok (.string (mk l)) W :=
  str_u8 _ _ _ Try.underlying62 Try.underlying5 Try.underlying9 W b off n c l hl hc
theorem mk_u8 (m : Nat) (hm : m ≤ 281474976710656) (W : World) : (Instr.makeSlice 62 (.int .i64 (m : Int)) (.int .i64 (m : Int))).run Try.prog W = .ok (.slice (some ⟨W.heap.size, 0, none⟩) m m) (W.alloc (.cells (bvs (zs m)) 5)) := by
  obtain ⟨i0, hi, hz0, hz1, hz2⟩ := info_parts (show (Try.prog.info? 5).map (fun i => (i.zero, i.size, i.bytes)) = some (some (.int .u8 0), 1, 1) by kernel_rfl)
  exact make_u8 _ _ i0 Try.underlying62 hi hz0 hz1 hz2 m hm W

set_option maxHeartbeats 400000 in
theorem has_ok (m : Blk) (i : Nat) (w : World) (hm : m.length = 128) (h : i < 1024) :
    Calls Try.prog 94 #[.string (mk m), .int .i64 i] w fun e w' => e = .returned (.bool (bit m i)) ∧ w = w' := by
  have h1 : (0 : Int) ≤ (i : Int) / 8 := by omega
  have h2 : (i : Int) / 8 < (List.length m : Nat) := by omega
  have hb := gb_lt m (i / 8)
  go_enter Try.func94, Try.ntmps94
  go_wp2
  go_ret
  exact ⟨ret_bool (has_bits m i), rfl⟩
set_option maxHeartbeats 400000 in
theorem get_ok (s : Blk) (w : World) (h : s.length ≤ 8) :
    Calls Try.prog 69 #[.string (mk s)] w fun e w' => e = .returned (.int .u64 (le s)) ∧ w = w' := by
  go_enter Try.func69, Try.ntmps69
  go_wp2
  go_loop [3, 8] (fun n i => ∃ k : Nat, k ≤ s.length ∧ i = .int .i64 k ∧ n = .int .u64 (le (s.take k))) (fun _ i => s.length - (intOf i).toNat)
  case atStart => exact ⟨0, Nat.zero_le _, rfl, rfl⟩
  case round =>
    obtain ⟨k, hk, rfl, rfl⟩ := hrel
    by_cases hlt : k < s.length
    · go_wp2
      refine ⟨⟨k + 1, by omega, by go_num, ?_⟩, by simp [intOf]; omega⟩
      rw [get_step s k hlt h]
    · go_wp2
      go_ret
      exact ⟨ret_int (by rw [List.take_of_length_le (by omega)]), rfl⟩
set_option maxHeartbeats 400000 in
theorem put_ok (n k : Nat) (w : World) (h : k ≤ 8) (hn : n < 4294967296):
    Calls Try.prog 67 #[.int .u64 n, .int .i64 k] w fun e w' => e = .returned (.string (mk (ple n k))) ∧ Below w.heap.size w w' := by
  have hmk := mk_u8 k (by omega)
  go_enter Try.func67, Try.ntmps67
  go_wp2
  go_loopw [13] (fun i wr => ∃ j : Nat, j ≤ k ∧ i = .int .i64 j ∧ wr = w.alloc (.cells (bvs (putc n k j)) 5)) (fun i _ => k - (intOf i).toNat)
  case atStart => exact ⟨0, Nat.zero_le _, rfl, rfl⟩
  case round =>
    obtain ⟨j, hj, rfl, rfl⟩ := hrel
    by_cases hlt : j < k
    · have hcell := bvs_get (putc n k j) j (by rw [putc_length _ _ _ hj]; exact hlt)
      go_wp2
      refine ⟨⟨j + 1, by omega, by go_num, ?_⟩, by simp [intOf]; omega⟩
      rw [put_step n k j hlt]
    · obtain rfl : j = k := by omega
      have hst := str_of_u8 (w.alloc (.cells (bvs (putc n j j)) 5)) w.heap.size 0 j j (putc n j j) (putc_length _ _ _ hj) (fun i hi => by
        rw [World.cell?_alloc_at _ _ _ _ rfl, Nat.zero_add, bvs_get _ _ (by rw [putc_length _ _ _ hj]; exact hi)])
      go_wp2
      go_ret
      exact ⟨ret_str (by simp [putc, zs]; exact List.take_of_length_le (by simp [ple_length])), (Below.refl _ _).alloc (Nat.le_refl _) _⟩
end Go.Proofs.Ytacdohlhalnioaa

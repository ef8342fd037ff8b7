/- Contracts of the references' bytes: numbers, zeros, the first block, bits. -/
import Derived.Test.YtacdohlhalnioaaC3
set_option linter.unusedVariables false
set_option maxRecDepth 20000
namespace Go.Proofs.Ytacdohlhalnioaa
open Go.RowKit

set_option maxHeartbeats 400000 in
theorem rbit_ok (m : Blk) (i : Nat) (w : World) (hm : m.length = 128) (h : i < 1024) :
    Calls Try.prog 88 #[.string (mk m), .int .i64 i] w fun e w' => e = .returned (.bool (bit m i)) ∧ w = w' := by
  have h1 : (0 : Int) ≤ (i : Int) / 8 := by omega
  have h2 : (i : Int) / 8 < (List.length m : Nat) := by omega
  have hb := gb_lt m (i / 8)
  go_enter Try.func88, Try.ntmps88
  go_wp2
  go_ret
  exact ⟨ret_bool (has_bits m i), rfl⟩

set_option maxHeartbeats 400000 in
theorem rzeros_ok (n : Nat) (w : World) (h : n ≤ 1024) :
    Calls Try.prog 120 #[.int .i64 n] w fun e w' => e = .returned (.string (mk (zs n))) ∧ w = w' := by
  go_enter Try.func120, Try.ntmps120
  go_wp2
  go_loop [3, 4] (fun s i => ∃ k : Nat, k ≤ n ∧ i = .int .i64 k ∧ s = .string (mk (zs k))) (fun _ i => n - (intOf i).toNat)
  case atStart => exact ⟨0, Nat.zero_le _, rfl, rfl⟩
  case round =>
    obtain ⟨k, hk, rfl, rfl⟩ := hrel
    by_cases hlt : k < n
    · go_wp2
      go_round
      case rel => exact ⟨k + 1, by omega, by go_num, by simp [zs, List.replicate_succ']⟩
      case measure => simp [intOf]; omega
    · obtain rfl : k = n := by omega
      go_wp2
      go_ret
      exact ⟨rfl, rfl⟩


theorem le_drop (s : Blk) (k : Nat) (h : k < s.length) : le (s.drop k) = gb s k + 256 * le (s.drop (k + 1)) := by
  rw [List.drop_eq_getElem_cons h, le]
  simp [gb, h]
set_option maxHeartbeats 400000 in
theorem rget_ok (s : Blk) (w : World) (h : s.length ≤ 8) :
    Calls Try.prog 75 #[.string (mk s)] w fun e w' => e = .returned (.int .u64 (le s)) ∧ w = w' := by
  go_enter Try.func75, Try.ntmps75
  go_wp2
  go_loop [3, 4] (fun n i => ∃ k : Nat, k ≤ s.length ∧ i = .int .i64 ((k : Int) - 1) ∧ n = .int .u64 (le (s.drop k))) (fun _ i => ((intOf i) + 1).toNat)
  case atStart => exact ⟨s.length, Nat.le_refl _, rfl, by simp [le]⟩
  case round =>
    obtain ⟨k, hk, rfl, rfl⟩ := hrel
    cases k with
    | zero =>
      go_wp2
      go_ret
      exact ⟨rfl, rfl⟩
    | succ k =>
      have e1 : ((k + 1 : Nat) : Int) - 1 = (k : Int) := by omega
      have hl : le (s.drop (k + 1)) < 72057594037927936 := by
        have h1 := le_lt (s.drop (k + 1))
        rw [List.length_drop] at h1
        have h2 : 256 ^ (s.length - (k + 1)) ≤ 256 ^ 7 := Nat.pow_le_pow_right (by omega) (by omega)
        omega
      have hg := gb_lt s k
      rw [e1]
      go_wp2
      refine ⟨⟨k, by omega, rfl, ?_⟩, by simp only [intOf]; omega⟩
      rw [le_drop s k (by omega)]
      go_num
theorem ple_snoc (n k : Nat) : ple n (k + 1) = ple n k ++ [UInt8.ofNat (n / 256 ^ k)] := by
  apply List.ext_getElem?
  intro j
  by_cases h : j < k
  · rw [ple_get _ _ _ (by omega), List.getElem?_append_left (by simpa using h), ple_get _ _ _ h]
  · rw [List.getElem?_append_right (by simp; omega)]
    by_cases h2 : j = k
    · subst h2; rw [ple_get _ _ _ (by omega)]; simp
    · rw [List.getElem?_eq_none (by simp; omega), List.getElem?_eq_none (by simp; omega)]
set_option maxHeartbeats 400000 in
set_option maxRecDepth 5000 in
theorem rput_ok (n k : Nat) (w : World) (h : k ≤ 8) (hn : n < 4294967296) :
    Calls Try.prog 119 #[.int .u64 n, .int .i64 k] w fun e w' => e = .returned (.string (mk (ple n k))) ∧ Below w.heap.size w w' := by
  go_enter Try.func119, Try.ntmps119
  go_wp2
  go_loopw [0, 5, 6] (fun m s i wr => ∃ j q : Nat, j ≤ k ∧ i = .int .i64 j ∧ m = .int .u64 q ∧ s = .string (mk (ple n j)) ∧ Below w.heap.size w wr ∧ q < 4294967296 ∧ Hid (q = n / 256 ^ j)) (fun _ _ i _ => k - (intOf i).toNat)
  case atStart => exact ⟨0, n, Nat.zero_le _, rfl, rfl, rfl, Below.refl _ _, hn, by simp [Hid]⟩
  case round =>
    obtain ⟨j, q, hj, rfl, rfl, rfl, hb, hq, hQ⟩ := hrel
    by_cases hlt : j < k
    · have hlt8 : j < 8 := by omega
      have hst := str_of_u8 (wr.alloc (.cells #[.int .u8 ((q : Int) % 256)] 5)) wr.heap.size 0 1 1 [UInt8.ofNat q] rfl (fun i hi => by
        obtain rfl : i = 0 := by omega
        rw [World.cell?_alloc_at _ _ _ _ rfl]
        simp [gb])
      go_wp2
      refine ⟨⟨j + 1, q / 256, by omega, by go_num, rfl, ?_, hb.alloc hb.size _, by omega, ?_⟩, by simp only [intOf]; omega⟩
      · rw [ple_snoc, ← hQ.out]
      · rw [hQ.out, Nat.div_div_eq_div_mul, Nat.pow_succ]
        rfl
    · obtain rfl : j = k := by omega
      by_cases h8 : j < 8
      · go_wp2
        go_ret
        exact ⟨rfl, hb⟩
      · go_wp2
        go_ret
        exact ⟨rfl, hb⟩

set_option maxHeartbeats 400000 in
theorem rhead_ok (b i : Nat) (c d e f : Int) (w : World) (hb : b < 65536) (hi : i < 65536) :
    Calls Try.prog 87 #[.agg #[.int .i64 b, .int .i64 i, .int .i64 c, .int .i64 d, .int .i64 e, .int .i64 f]] w fun e w' => e = .returned (.string (mk (firstB b i))) ∧ Below w.heap.size w w' := by
  have hwb := wrap_u64 b (by omega)
  have hwi := wrap_u64 i (by omega)
  have hl1 := ple_length b 2
  have hl2 := ple_length i 2
  have hl3 := zs_length 120
  go_enter Try.func87, Try.ntmps87
  go_wp2_with fail
  go_region_held3 (fun w' => w'.cell? ⟨w.heap.size, 0, none⟩ = some (.int .i64 b) ∧ w'.cell? ⟨w.heap.size, 1, none⟩ = some (.int .i64 i) ∧ Below w.heap.size w w')
    (first | exact ⟨by simp, by simp, ((Below.refl _ _).alloc (Nat.le_refl _) _).drew⟩ | (go_split_ands; exact ⟨cell_keep (by first | assumption | simp) hb1, cell_keep (by first | assumption | simp) hb1, below_keep (by first | assumption | exact ((Below.refl _ _).alloc (Nat.le_refl _) _).drew) (Nat.le_refl _) hb1⟩) | assumption)
    (first | (go_at_call 119; refine (rput_ok _ 2 _ (by omega) (by omega)).mono ?_; rintro e w1 ⟨rfl, hb1⟩) | (go_at_call 120; refine (rzeros_ok 120 _ (by omega)).mono ?_; rintro e w1 ⟨rfl, rfl⟩))
  rename_i hh
  go_wp2
  go_ret
  exact ⟨ret_str (by simp [firstB]), hh.2.2⟩

/-- The map of a plan: the bits ahead of d are set, and those from b on aren't. -/
def okmap (m : Blk) (d b : Nat) : Bool := (List.range 1024).all fun i => (!decide (i < d) || bit m i) && (!decide (b ≤ i) || !bit m i)
theorem okmap_iff {m : Blk} {d b : Nat} : okmap m d b = true ↔ ∀ i, i < 1024 → (i < d → bit m i = true) ∧ (b ≤ i → bit m i = false) := by
  simp only [okmap, List.all_eq_true, List.mem_range, Bool.and_eq_true, Bool.or_eq_true, Bool.not_eq_true', decide_eq_false_iff_not]
  constructor
  · intro h i hi
    exact ⟨fun hd => (h i hi).1.resolve_left (fun n => n hd), fun hb => (h i hi).2.resolve_left (fun n => n hb)⟩
  · intro h i hi
    refine ⟨?_, ?_⟩
    · by_cases hd : i < d
      · exact .inr ((h i hi).1 hd)
      · exact .inl hd
    · by_cases hb : b ≤ i
      · exact .inr ((h i hi).2 hb)
      · exact .inl hb
theorem okmap_no1 {m : Blk} {d b i : Nat} (h1 : i < 1024) (h2 : i < d) (h : bit m i = false) : okmap m d b = false := by
  rw [← Bool.not_eq_true, okmap_iff]
  intro hall
  have := (hall i h1).1 h2
  rw [h] at this
  cases this
theorem okmap_no2 {m : Blk} {d b i : Nat} (h1 : i < 1024) (h2 : b ≤ i) (h : bit m i = true) : okmap m d b = false := by
  rw [← Bool.not_eq_true, okmap_iff]
  intro hall
  have := (hall i h1).2 h2
  rw [h] at this
  cases this
set_option maxHeartbeats 800000 in
theorem right_ok (m : Blk) (b d : Nat) (b1 b2 b3 b4 : Int) (w : World) (hm : m.length = 128) (hd : d ≤ 1024) (hb : b ≤ 1024) :
    Calls Try.prog 106 #[.string (mk m), .agg #[.int .i64 b, .int .i64 b1, .int .i64 b2, .int .i64 b3, .int .i64 b4, .int .i64 d]] w fun e w' => e = .returned (.bool (okmap m d b)) ∧ Below w.heap.size w w' := by
  go_enter Try.func106, Try.ntmps106
  go_wp2
  go_loop [9] (fun i => ∃ k : Nat, k ≤ d ∧ i = .int .i64 k ∧ ∀ j, j < k → bit m j = true) (fun i => d - (intOf i).toNat)
  case atStart => exact ⟨0, Nat.zero_le _, rfl, by omega⟩
  case round =>
    obtain ⟨k, hk, rfl, hall⟩ := hrel
    have H1 := Lib.hid hall
    clear hall
    by_cases hlt : k < d
    · cases hbit : bit m k with
      | false =>
        go_wp2_with (go_at_call 94; refine (has_ok m k _ hm (by omega)).mono ?_; rintro e w' ⟨rfl, rfl⟩)
        go_ret
        exact ⟨ret_bool (okmap_no1 (by omega) hlt hbit).symm, (Below.refl _ _).alloc (Nat.le_refl _) _⟩
      | true =>
        go_wp2_with (go_at_call 94; refine (has_ok m k _ hm (by omega)).mono ?_; rintro e w' ⟨rfl, rfl⟩)
        refine ⟨⟨k + 1, by omega, by go_num, ?_⟩, by simp only [intOf]; omega⟩
        intro j hj
        by_cases e : j = k
        · rw [e]; exact hbit
        · exact H1.out j (by omega)
    · obtain rfl : k = d := by omega
      go_wp2
      go_loop [6] (fun i => ∃ q : Nat, b ≤ q ∧ q ≤ 1024 ∧ i = .int .i64 q ∧ ∀ j, b ≤ j → j < q → bit m j = false) (fun i => 1024 - (intOf i).toNat)
      case atStart => exact ⟨b, Nat.le_refl _, hb, rfl, by omega⟩
      case round =>
        obtain ⟨q, hq1, hq2, rfl, hall⟩ := hrel
        have H2 := Lib.hid hall
        clear hall
        by_cases hlt : q < 1024
        · cases hbit : bit m q with
          | true =>
            go_wp2_with (go_at_call 94; refine (has_ok m q _ hm hlt).mono ?_; rintro e w' ⟨rfl, rfl⟩)
            go_ret
            exact ⟨ret_bool (okmap_no2 hlt hq1 hbit).symm, (Below.refl _ _).alloc (Nat.le_refl _) _⟩
          | false =>
            go_wp2_with (go_at_call 94; refine (has_ok m q _ hm hlt).mono ?_; rintro e w' ⟨rfl, rfl⟩)
            refine ⟨⟨q + 1, by omega, by omega, by go_num, ?_⟩, by simp only [intOf]; omega⟩
            intro j h1 h2
            by_cases e : j = q
            · rw [e]; exact hbit
            · exact H2.out j h1 (by omega)
        · obtain rfl : q = 1024 := by omega
          go_wp2
          go_ret
          refine ⟨ret_bool ?_, (Below.refl _ _).alloc (Nat.le_refl _) _⟩
          rw [eq_comm, okmap_iff]
          exact fun i hi => ⟨fun h => H1.out i h, fun h => H2.out i h hi⟩
end Go.Proofs.Ytacdohlhalnioaa

/- Joined: XC3 XC4 XC5 XC6 XC7. -/
import Derived.Test.YtacdohlhalnioaaShelf
import Derived.Test.YtacdohlhalnioaaJ1
import Derived.Deep.QuietTactic
import Derived.BigQuiet
/- Contracts: zeros, and the first block of a plan. -/
section
set_option linter.unusedSimpArgs false
set_option linter.unusedVariables false
namespace Go.Proofs.Ytacdohlhalnioaa
open Go.RowKit

theorem cell_keep {W w1 : World} {p : Addr} {v : Value} (h : W.cell? p = some v) (hb : Below W.heap.size W w1) : w1.cell? p = some v :=
  (hb.cell (World.block_lt_of_cell? W p h)).trans h
theorem below_keep {B : Nat} {w W w1 : World} (h : Below B w W) (hB : B ≤ w.heap.size) (hb : Below W.heap.size W w1) : Below B w w1 :=
  h.trans (hb.mono (Nat.le_trans hB h.size))
theorem cells6 {w : World} {b t : Nat} {a0 a1 a2 a3 a4 a5 : Value} (h : w.heap[b]? = some (.cells #[a0, a1, a2, a3, a4, a5] t (0, 0))) :
    w.cell? ⟨b, 0, none⟩ = some a0 ∧ w.cell? ⟨b, 1, none⟩ = some a1 ∧ w.cell? ⟨b, 2, none⟩ = some a2 ∧ w.cell? ⟨b, 3, none⟩ = some a3 ∧ w.cell? ⟨b, 4, none⟩ = some a4 ∧ w.cell? ⟨b, 5, none⟩ = some a5 := by
  refine ⟨?_, ?_, ?_, ?_, ?_, ?_⟩ <;> simp [World.cell?, h]
theorem free_of {w : World} {b t : Nat} {cs : Array Value} (h : w.heap[b]? = some (.cells cs t (0, 0))) (i : Nat) : w.frozen? ⟨b, i, none⟩ = false := by
  simp [World.frozen?, h]
theorem blk_keep {W w1 : World} {k : Nat} {o : Obj} (h : W.heap[k]? = some o) (hb : Below W.heap.size W w1) : w1.heap[k]? = some o := (hb.block k (Array.getElem?_eq_some_iff.1 h).1).trans h
theorem blk_new (w : World) (o : Obj) : (w.alloc o).heap[w.heap.size]? = some o := heap_alloc_new w o
theorem blk_lt {w : World} {k : Nat} {o : Obj} (h : w.heap[k]? = some o) : k < w.heap.size := (Array.getElem?_eq_some_iff.1 h).1
theorem below_set {B k i : Nat} {w W : World} {u : Value} (h : Below B w W) (hk : B ≤ k) : Below B w (W.setCell ⟨k, i, none⟩ u) := h.setCell (p := ⟨k, i, none⟩) hk u
theorem below_set6 {B k : Nat} {w W : World} {a0 a1 a2 a3 a4 a5 : Value} (h : Below B w W) (hk : B ≤ k) :
    Below B w ((((((W.setCell ⟨k, 0, none⟩ a0).setCell ⟨k, 1, none⟩ a1).setCell ⟨k, 2, none⟩ a2).setCell ⟨k, 3, none⟩ a3).setCell ⟨k, 4, none⟩ a4).setCell ⟨k, 5, none⟩ a5) :=
  below_set (below_set (below_set (below_set (below_set (below_set h hk) hk) hk) hk) hk) hk
theorem repeat_zs (n : Nat) : (Lib.repeatL [(0 : UInt8)] n).toArray = (zs n).toArray := by
  congr 1
  induction n with
  | zero => rfl
  | succ n ih => simp only [Lib.repeatL, ih, zs, List.replicate_succ]; rfl
theorem wrap_u64 (n : Nat) (h : n < 4294967296) : IntKind.u64.wrap (n : Int) = (n : Int) := by
  simp [IntKind.wrap, IntKind.bits, IntKind.signed]; omega
set_option maxHeartbeats 400000 in
theorem repeat0_ok (n : Nat) (w : World) (h : n ≤ 140737488355328) :
    Calls Try.prog 61 #[.string (mk [0]), .int .i64 n] w fun e w' => e = .returned (.string (mk (zs n))) ∧ Below w.heap.size w w' :=
  (Try.strings_Repeat (mk [0]) n w (by omega) (by simpa using h)).mono fun e w' ⟨he, hb⟩ => ⟨by rw [he]; show Ending.returned (.string ⟨(Lib.repeatL [0] n).toArray⟩) = _; rw [repeat_zs]; rfl, hb⟩

set_option maxHeartbeats 400000 in
theorem zeros_ok (w : World) :
    Calls Try.prog 91 #[] w fun e w' => e = .returned (.string (mk (zs 128))) ∧ Below w.heap.size w w' := by
  go_enter Try.func91, Try.ntmps91
  go_wp2_with (go_at_call 61; refine (repeat0_ok 128 _ (by omega)).mono ?_; rintro e w1 ⟨rfl, hb⟩)
  go_ret
  exact ⟨rfl, hb⟩

/-- The first block. -/
def firstB (b i : Nat) : Blk := [104, 105, 98, 49] ++ ple b 2 ++ ple i 2 ++ zs 120
set_option maxHeartbeats 400000 in
theorem first_ok (b i : Nat) (c d e f : Int) (w : World) (hb : b < 65536) (hi : i < 65536) :
    Calls Try.prog 92 #[.agg #[.int .i64 b, .int .i64 i, .int .i64 c, .int .i64 d, .int .i64 e, .int .i64 f]] w fun e w' => e = .returned (.string (mk (firstB b i))) ∧ Below w.heap.size w w' := by
  have hwb := wrap_u64 b (by omega)
  have hwi := wrap_u64 i (by omega)
  have hl1 := ple_length b 2
  have hl2 := ple_length i 2
  go_enter Try.func92, Try.ntmps92
  go_wp2_with fail
  go_region_held3 (fun w' => w'.cell? ⟨w.heap.size, 0, none⟩ = some (.int .i64 b) ∧ w'.cell? ⟨w.heap.size, 1, none⟩ = some (.int .i64 i) ∧ Below w.heap.size w w')
    (first | exact ⟨by simp, by simp, ((Below.refl _ _).alloc (Nat.le_refl _) _).drew⟩ | (go_split_ands; exact ⟨cell_keep (by first | assumption | simp) hb1, cell_keep (by first | assumption | simp) hb1, below_keep (by first | assumption | exact ((Below.refl _ _).alloc (Nat.le_refl _) _).drew) (Nat.le_refl _) hb1⟩))
    (first | (go_at_call 67; refine (put_ok _ 2 _ (by omega) (by omega)).mono ?_; rintro e w1 ⟨rfl, hb1⟩))
  rename_i hh
  go_wp2_with (go_at_call 91; refine (zeros_ok _).mono ?_; rintro e w2 ⟨rfl, hb2⟩)
  go_ret
  exact ⟨ret_str (by simp [firstB, zs]), below_keep hh.2.2 (Nat.le_refl _) hb2⟩
end Go.Proofs.Ytacdohlhalnioaa
end

/- Contracts of the references' bytes: numbers, zeros, the first block, bits. -/
section
set_option linter.unusedSimpArgs false
set_option linter.unusedVariables false
set_option maxRecDepth 20000
namespace Go.Proofs.Ytacdohlhalnioaa
open Go.RowKit

set_option maxHeartbeats 400000 in
theorem rbit_ok (m : Blk) (i : Nat) (w : World) (hm : m.length = 128) (h : i < 1024) :
    Calls Try.prog 88 #[.string (mk m), .int .i64 i] w fun e w' => e = .returned (.bool (bit m i)) ∧ w = w' := by
  have h1 : (0 : Int) ≤ (i : Int) / 8 := by omega
  have h2 : (i : Int) / 8 < (List.length m : Nat) := by omega
  have hb := gb_lt m (i / 8)
  go_enter Try.func88, Try.ntmps88
  go_wp2
  go_ret
  exact ⟨ret_bool (has_bits m i), rfl⟩

set_option maxHeartbeats 400000 in
theorem rzeros_ok (n : Nat) (w : World) (h : n ≤ 1024) :
    Calls Try.prog 120 #[.int .i64 n] w fun e w' => e = .returned (.string (mk (zs n))) ∧ w = w' := by
  go_enter Try.func120, Try.ntmps120
  go_wp2
  go_loop [3, 4] (fun s i => ∃ k : Nat, k ≤ n ∧ i = .int .i64 k ∧ s = .string (mk (zs k))) (fun _ i => n - (intOf i).toNat)
  case atStart => exact ⟨0, Nat.zero_le _, rfl, rfl⟩
  case round =>
    obtain ⟨k, hk, rfl, rfl⟩ := hrel
    by_cases hlt : k < n
    · go_wp2
      go_round
      case rel => exact ⟨k + 1, by omega, by go_num, by simp [zs, List.replicate_succ']⟩
      case measure => simp [intOf]; omega
    · obtain rfl : k = n := by omega
      go_wp2
      go_ret
      exact ⟨rfl, rfl⟩


theorem le_drop (s : Blk) (k : Nat) (h : k < s.length) : le (s.drop k) = gb s k + 256 * le (s.drop (k + 1)) := by
  rw [List.drop_eq_getElem_cons h, le]
  simp [gb, h]
set_option maxHeartbeats 400000 in
theorem rget_ok (s : Blk) (w : World) (h : s.length ≤ 8) :
    Calls Try.prog 75 #[.string (mk s)] w fun e w' => e = .returned (.int .u64 (le s)) ∧ w = w' := by
  go_enter Try.func75, Try.ntmps75
  go_wp2
  go_loop [3, 4] (fun n i => ∃ k : Nat, k ≤ s.length ∧ i = .int .i64 ((k : Int) - 1) ∧ n = .int .u64 (le (s.drop k))) (fun _ i => ((intOf i) + 1).toNat)
  case atStart => exact ⟨s.length, Nat.le_refl _, rfl, by simp [le]⟩
  case round =>
    obtain ⟨k, hk, rfl, rfl⟩ := hrel
    cases k with
    | zero =>
      go_wp2
      go_ret
      exact ⟨rfl, rfl⟩
    | succ k =>
      have e1 : ((k + 1 : Nat) : Int) - 1 = (k : Int) := by omega
      have hl : le (s.drop (k + 1)) < 72057594037927936 := by
        have h1 := le_lt (s.drop (k + 1))
        rw [List.length_drop] at h1
        have h2 : 256 ^ (s.length - (k + 1)) ≤ 256 ^ 7 := Nat.pow_le_pow_right (by omega) (by omega)
        omega
      have hg := gb_lt s k
      rw [e1]
      go_wp2
      refine ⟨⟨k, by omega, rfl, ?_⟩, by simp only [intOf]; omega⟩
      rw [le_drop s k (by omega)]
      go_num
theorem ple_snoc (n k : Nat) : ple n (k + 1) = ple n k ++ [UInt8.ofNat (n / 256 ^ k)] := by
  apply List.ext_getElem?
  intro j
  by_cases h : j < k
  · rw [ple_get _ _ _ (by omega), List.getElem?_append_left (by simpa using h), ple_get _ _ _ h]
  · rw [List.getElem?_append_right (by simp; omega)]
    by_cases h2 : j = k
    · subst h2; rw [ple_get _ _ _ (by omega)]; simp
    · rw [List.getElem?_eq_none (by simp; omega), List.getElem?_eq_none (by simp; omega)]
set_option maxHeartbeats 400000 in
set_option maxRecDepth 5000 in
theorem rput_ok (n k : Nat) (w : World) (h : k ≤ 8) (hn : n < 4294967296) :
    Calls Try.prog 119 #[.int .u64 n, .int .i64 k] w fun e w' => e = .returned (.string (mk (ple n k))) ∧ Below w.heap.size w w' := by
  go_enter Try.func119, Try.ntmps119
  go_wp2
  go_loopw [0, 5, 6] (fun m s i wr => ∃ j q : Nat, j ≤ k ∧ i = .int .i64 j ∧ m = .int .u64 q ∧ s = .string (mk (ple n j)) ∧ Below w.heap.size w wr ∧ q < 4294967296 ∧ Hid (q = n / 256 ^ j)) (fun _ _ i _ => k - (intOf i).toNat)
  case atStart => exact ⟨0, n, Nat.zero_le _, rfl, rfl, rfl, Below.refl _ _, hn, by simp [Hid]⟩
  case round =>
    obtain ⟨j, q, hj, rfl, rfl, rfl, hb, hq, hQ⟩ := hrel
    by_cases hlt : j < k
    · have hlt8 : j < 8 := by omega
      have hst := str_of_u8 (wr.alloc (.cells #[.int .u8 ((q : Int) % 256)] 5)) wr.heap.size 0 1 1 [UInt8.ofNat q] rfl (fun i hi => by
        obtain rfl : i = 0 := by omega
        rw [World.cell?_alloc_at _ _ _ _ rfl]
        simp [gb])
      go_wp2
      refine ⟨⟨j + 1, q / 256, by omega, by go_num, rfl, ?_, hb.alloc hb.size _, by omega, ?_⟩, by simp only [intOf]; omega⟩
      · rw [ple_snoc, ← hQ.out]
      · rw [hQ.out, Nat.div_div_eq_div_mul, Nat.pow_succ]
        rfl
    · obtain rfl : j = k := by omega
      by_cases h8 : j < 8
      · go_wp2
        go_ret
        exact ⟨rfl, hb⟩
      · go_wp2
        go_ret
        exact ⟨rfl, hb⟩

set_option maxHeartbeats 400000 in
theorem rhead_ok (b i : Nat) (c d e f : Int) (w : World) (hb : b < 65536) (hi : i < 65536) :
    Calls Try.prog 87 #[.agg #[.int .i64 b, .int .i64 i, .int .i64 c, .int .i64 d, .int .i64 e, .int .i64 f]] w fun e w' => e = .returned (.string (mk (firstB b i))) ∧ Below w.heap.size w w' := by
  have hwb := wrap_u64 b (by omega)
  have hwi := wrap_u64 i (by omega)
  have hl1 := ple_length b 2
  have hl2 := ple_length i 2
  have hl3 := zs_length 120
  go_enter Try.func87, Try.ntmps87
  go_wp2_with fail
  go_region_held3 (fun w' => w'.cell? ⟨w.heap.size, 0, none⟩ = some (.int .i64 b) ∧ w'.cell? ⟨w.heap.size, 1, none⟩ = some (.int .i64 i) ∧ Below w.heap.size w w')
    (first | exact ⟨by simp, by simp, ((Below.refl _ _).alloc (Nat.le_refl _) _).drew⟩ | (go_split_ands; exact ⟨cell_keep (by first | assumption | simp) hb1, cell_keep (by first | assumption | simp) hb1, below_keep (by first | assumption | exact ((Below.refl _ _).alloc (Nat.le_refl _) _).drew) (Nat.le_refl _) hb1⟩) | assumption)
    (first | (go_at_call 119; refine (rput_ok _ 2 _ (by omega) (by omega)).mono ?_; rintro e w1 ⟨rfl, hb1⟩) | (go_at_call 120; refine (rzeros_ok 120 _ (by omega)).mono ?_; rintro e w1 ⟨rfl, rfl⟩))
  rename_i hh
  go_wp2
  go_ret
  exact ⟨ret_str (by simp [firstB]), hh.2.2⟩

/-- The map of a plan: the bits ahead of d are set, and those from b on aren't. -/
def okmap (m : Blk) (d b : Nat) : Bool := (List.range 1024).all fun i => (!decide (i < d) || bit m i) && (!decide (b ≤ i) || !bit m i)
theorem okmap_iff {m : Blk} {d b : Nat} : okmap m d b = true ↔ ∀ i, i < 1024 → (i < d → bit m i = true) ∧ (b ≤ i → bit m i = false) := by
  simp only [okmap, List.all_eq_true, List.mem_range, Bool.and_eq_true, Bool.or_eq_true, Bool.not_eq_true', decide_eq_false_iff_not]
  constructor
  · intro h i hi
    exact ⟨fun hd => (h i hi).1.resolve_left (fun n => n hd), fun hb => (h i hi).2.resolve_left (fun n => n hb)⟩
  · intro h i hi
    refine ⟨?_, ?_⟩
    · by_cases hd : i < d
      · exact .inr ((h i hi).1 hd)
      · exact .inl hd
    · by_cases hb : b ≤ i
      · exact .inr ((h i hi).2 hb)
      · exact .inl hb
theorem okmap_no1 {m : Blk} {d b i : Nat} (h1 : i < 1024) (h2 : i < d) (h : bit m i = false) : okmap m d b = false := by
  rw [← Bool.not_eq_true, okmap_iff]
  intro hall
  have := (hall i h1).1 h2
  rw [h] at this
  cases this
theorem okmap_no2 {m : Blk} {d b i : Nat} (h1 : i < 1024) (h2 : b ≤ i) (h : bit m i = true) : okmap m d b = false := by
  rw [← Bool.not_eq_true, okmap_iff]
  intro hall
  have := (hall i h1).2 h2
  rw [h] at this
  cases this
set_option maxHeartbeats 800000 in
theorem right_ok (m : Blk) (b d : Nat) (b1 b2 b3 b4 : Int) (w : World) (hm : m.length = 128) (hd : d ≤ 1024) (hb : b ≤ 1024) :
    Calls Try.prog 106 #[.string (mk m), .agg #[.int .i64 b, .int .i64 b1, .int .i64 b2, .int .i64 b3, .int .i64 b4, .int .i64 d]] w fun e w' => e = .returned (.bool (okmap m d b)) ∧ Below w.heap.size w w' := by
  go_enter Try.func106, Try.ntmps106
  go_wp2
  go_loop [9] (fun i => ∃ k : Nat, k ≤ d ∧ i = .int .i64 k ∧ ∀ j, j < k → bit m j = true) (fun i => d - (intOf i).toNat)
  case atStart => exact ⟨0, Nat.zero_le _, rfl, by omega⟩
  case round =>
    obtain ⟨k, hk, rfl, hall⟩ := hrel
    have H1 := Lib.hid hall
    clear hall
    by_cases hlt : k < d
    · cases hbit : bit m k with
      | false =>
        go_wp2_with (go_at_call 94; refine (has_ok m k _ hm (by omega)).mono ?_; rintro e w' ⟨rfl, rfl⟩)
        go_ret
        exact ⟨ret_bool (okmap_no1 (by omega) hlt hbit).symm, (Below.refl _ _).alloc (Nat.le_refl _) _⟩
      | true =>
        go_wp2_with (go_at_call 94; refine (has_ok m k _ hm (by omega)).mono ?_; rintro e w' ⟨rfl, rfl⟩)
        refine ⟨⟨k + 1, by omega, by go_num, ?_⟩, by simp only [intOf]; omega⟩
        intro j hj
        by_cases e : j = k
        · rw [e]; exact hbit
        · exact H1.out j (by omega)
    · obtain rfl : k = d := by omega
      go_wp2
      go_loop [6] (fun i => ∃ q : Nat, b ≤ q ∧ q ≤ 1024 ∧ i = .int .i64 q ∧ ∀ j, b ≤ j → j < q → bit m j = false) (fun i => 1024 - (intOf i).toNat)
      case atStart => exact ⟨b, Nat.le_refl _, hb, rfl, by omega⟩
      case round =>
        obtain ⟨q, hq1, hq2, rfl, hall⟩ := hrel
        have H2 := Lib.hid hall
        clear hall
        by_cases hlt : q < 1024
        · cases hbit : bit m q with
          | true =>
            go_wp2_with (go_at_call 94; refine (has_ok m q _ hm hlt).mono ?_; rintro e w' ⟨rfl, rfl⟩)
            go_ret
            exact ⟨ret_bool (okmap_no2 hlt hq1 hbit).symm, (Below.refl _ _).alloc (Nat.le_refl _) _⟩
          | false =>
            go_wp2_with (go_at_call 94; refine (has_ok m q _ hm hlt).mono ?_; rintro e w' ⟨rfl, rfl⟩)
            refine ⟨⟨q + 1, by omega, by omega, by go_num, ?_⟩, by simp only [intOf]; omega⟩
            intro j h1 h2
            by_cases e : j = q
            · rw [e]; exact hbit
            · exact H2.out j h1 (by omega)
        · obtain rfl : q = 1024 := by omega
          go_wp2
          go_ret
          refine ⟨ret_bool ?_, (Below.refl _ _).alloc (Nat.le_refl _) _⟩
          rw [eq_comm, okmap_iff]
          exact fun i hi => ⟨fun h => H1.out i h, fun h => H2.out i h hi⟩
end Go.Proofs.Ytacdohlhalnioaa
end

/- Contracts: where things are on a volume (the program's). -/
section
set_option linter.unusedSimpArgs false
set_option linter.unusedVariables false
set_option maxRecDepth 20000
namespace Go.Proofs.Ytacdohlhalnioaa
open Go.RowKit

def inosV (v : Vol) : Nat := w2 (bk v 0) 6
def dataV (v : Vol) : Nat := 3 + (inosV v + 1) / 2
def sized (v : Vol) : Bool := v.all fun s => s.length == 128
/-- A volume of the document's form. -/
def okV (v : Vol) : Bool := sized v && decide (planE v.length (inosV v) = 0) && decide (bk v 0 = firstB v.length (inosV v)) && okmap (bk v 2) (dataV v) v.length
theorem sized_iff {v : Vol} : sized v = true ↔ ∀ j, j < v.length → (bk v j).length = 128 := by
  simp only [sized, List.all_eq_true, beq_iff_eq]
  constructor
  · intro h j hj
    rw [← bk_get v j hj]
    exact h _ (List.getElem_mem hj)
  · intro h s hs
    obtain ⟨j, hj, rfl⟩ := List.getElem_of_mem hs
    rw [bk_get v j hj]
    exact h j hj
theorem sized_no {v : Vol} {j : Nat} (hj : j < v.length) (h : (bk v j).length ≠ 128) : sized v = false := by
  rw [← Bool.not_eq_true, sized_iff]
  exact fun hall => h (hall j hj)
structure OkV (v : Vol) : Prop where
  size : ∀ j, j < v.length → (bk v j).length = 128
  lo : 16 ≤ v.length
  hi : v.length ≤ 223
  ilo : 4 ≤ inosV v
  ihi : inosV v ≤ 64
  data : 3 + (inosV v + 1) / 2 < v.length
  head : bk v 0 = firstB v.length (inosV v)
  map : okmap (bk v 2) (dataV v) v.length = true
theorem okV_iff {v : Vol} : okV v = true ↔ OkV v := by
  simp only [okV, Bool.and_eq_true, decide_eq_true_eq]
  constructor
  · rintro ⟨⟨⟨h1, h2⟩, h3⟩, h4⟩
    obtain ⟨a, b, c, d, e⟩ := planE_ok h2
    exact ⟨sized_iff.1 h1, a, b, c, d, e, h3, h4⟩
  · intro h
    refine ⟨⟨⟨sized_iff.2 h.size, ?_⟩, h.head⟩, h.map⟩
    have := h.lo; have := h.hi; have := h.ilo; have := h.ihi; have := h.data
    rw [planE, if_neg (by omega), if_neg (by omega)]
theorem get_two (b : Blk) (h : b.length = 128) : le ((b.drop 6).take 2) = w2 b 6 := by
  rw [le_two _ (by simp; omega), w2_take _ _ _ (by omega), w2_drop]

theorem right_ok' (m : Blk) (b : Nat) (d b1 b2 b3 b4 : Int) (q : Nat) (w : World) (hm : m.length = 128) (hd : d = (q : Int)) (hq : q ≤ 1024) (hb : b ≤ 1024) :
    Calls Try.prog 106 #[.string (mk m), .agg #[.int .i64 b, .int .i64 b1, .int .i64 b2, .int .i64 b3, .int .i64 b4, .int .i64 d]] w fun e w' => e = .returned (.bool (okmap m q b)) ∧ Below w.heap.size w w' := by
  subst hd
  exact right_ok m b q b1 b2 b3 b4 w hm hq hb
set_option maxHeartbeats 1000000 in
theorem of_ok (A : Option Addr) (c : Nat) (v : Vol) (w : World) (hr : RS w A v) (hv : okV v = true) :
    Calls Try.prog 71 #[.slice A v.length c] w fun e w' => e = .returned (.tuple #[.agg #[.int .i64 v.length, .int .i64 (inosV v), .int .i64 1, .int .i64 2, .int .i64 3, .int .i64 (3 + ((inosV v : Nat) + 1 : Int) / 2)], .int .i64 0]) ∧ Below w.heap.size w w' := by
  have H := okV_iff.1 hv
  obtain ⟨h1, h2, h3, h4, h5, h6, h7, h8⟩ := H
  have hl := hr.1
  obtain ⟨bA, oA, rfl, hbA, hc⟩ := hr.open_ (by omega)
  clear hr
  have K1 := Lib.hid h1
  have K7 := Lib.hid h7
  have K8 := Lib.hid h8
  have hc0 : w.cell? ⟨bA, oA, none⟩ = some (.string (mk (bk v 0))) := by simpa using hc 0 (by omega)
  have hc2 := hc 2 (by omega)
  have HC := Lib.hid hc
  have s0 := h1 0 (by omega)
  have s2 := h1 2 (by omega)
  have S0 := Lib.hid s0
  have S2 := Lib.hid s2
  have b0 : 8 ≤ (bk v 0).length := by omega
  clear hc h1 h7 h8 s0 s2 hv
  go_enter Try.func71, Try.ntmps71
  go_wp2
  go_loop [11] (fun i => ∃ k : Nat, k ≤ v.length ∧ i = .int .i64 k) (fun i => v.length - (intOf i).toNat)
  case atStart => exact ⟨0, Nat.zero_le _, rfl⟩
  case round =>
    obtain ⟨k, hk, rfl⟩ := hrel
    by_cases hlt : k < v.length
    · have hck := HC.out k hlt
      have hsk := K1.out k hlt
      go_wp2
      refine ⟨⟨k + 1, by omega, by go_num⟩, by simp only [intOf]; omega⟩
    · have hpl : planE v.length (inosV v) = 0 := by rw [planE, if_neg (by omega), if_neg (by omega)]
      have HP := Lib.hid hpl
      clear hpl
      go_wp2_with (go_at_call 69; refine (get_ok _ _ (by simp; omega)).mono ?_; rw [get_two (bk v 0) S0.out, show w2 (bk v 0) 6 = inosV v from rfl]; rintro e w' ⟨rfl, rfl⟩)
      refine (plan_ok v.length (inosV v) _ (by omega) (by omega) HP.out).mono ?_
      rintro e w1 ⟨rfl, hb1⟩
      have hB1 : Below w.heap.size w w1 := below_keep ((Below.refl _ _).alloc (Nat.le_refl _) _) (Nat.le_refl _) hb1
      have hk1 := blk_keep (blk_new w _) hb1
      have hw1 := blk_lt hk1
      go_wp2_with fail
      have hB2 : Below w.heap.size w (w1.alloc (.cells #[.int .i64 v.length, .int .i64 (inosV v), .int .i64 1, .int .i64 2, .int .i64 3, .int .i64 (3 + ((inosV v : Nat) + 1 : Int) / 2)] 66)) := hB1.alloc hB1.size _
      have hk2 := blk_new w1 (.cells #[.int .i64 v.length, .int .i64 (inosV v), .int .i64 1, .int .i64 2, .int .i64 3, .int .i64 (3 + ((inosV v : Nat) + 1 : Int) / 2)] 66)
      have hk3 := blk_keep hk1 ((Below.refl _ _).alloc (Nat.le_refl _) (.cells #[.int .i64 v.length, .int .i64 (inosV v), .int .i64 1, .int .i64 2, .int .i64 3, .int .i64 (3 + ((inosV v : Nat) + 1 : Int) / 2)] 66))
      generalize w1.alloc (.cells #[.int .i64 v.length, .int .i64 (inosV v), .int .i64 1, .int .i64 2, .int .i64 3, .int .i64 (3 + ((inosV v : Nat) + 1 : Int) / 2)] 66) = W0 at hB2 hk2 hk3 ⊢
      have d0 : W0.cell? ⟨bA, oA, none⟩ = some (.string (mk (firstB v.length (inosV v)))) := by rw [← K7.out]; exact cell_keep hc0 hB2
      have i0 : (0 : Int) < (v.length : Nat) := by omega
      have i2 : (2 : Int) < (v.length : Nat) := by omega
      have i0' : 0 < v.length := by omega
      have d2 := cell_keep hc2 hB2
      obtain ⟨g0, g1, g2, g3, g4, g5⟩ := cells6 hk2
      have HK2 := Lib.hid hk2
      have HK3 := Lib.hid hk3
      clear hk1 hk2 hk3 hc0 hc2
      go_region_held3 (fun w' => w'.cell? ⟨bA, oA, none⟩ = some (.string (mk (firstB v.length (inosV v)))) ∧ w'.cell? ⟨bA, oA + 2, none⟩ = some (.string (mk (bk v 2))) ∧ w'.cell? ⟨w1.heap.size, 0, none⟩ = some (.int .i64 v.length) ∧ w'.cell? ⟨w1.heap.size, 1, none⟩ = some (.int .i64 (inosV v)) ∧ w'.cell? ⟨w1.heap.size, 2, none⟩ = some (.int .i64 1) ∧ w'.cell? ⟨w1.heap.size, 3, none⟩ = some (.int .i64 2) ∧ w'.cell? ⟨w1.heap.size, 4, none⟩ = some (.int .i64 3) ∧ w'.cell? ⟨w1.heap.size, 5, none⟩ = some (.int .i64 (3 + ((inosV v : Nat) + 1 : Int) / 2)) ∧ Below W0.heap.size W0 w')
        (first | exact ⟨d0, d2, g0, g1, g2, g3, g4, g5, (Below.refl _ _).drew⟩ | assumption | (have hz := below_keep (B := W0.heap.size) (w := W0) (by first | (go_split_ands; assumption) | exact (Below.refl _ _).drew) (Nat.le_refl _) hb3; exact ⟨cell_keep d0 hz, cell_keep d2 hz, cell_keep g0 hz, cell_keep g1 hz, cell_keep g2 hz, cell_keep g3 hz, cell_keep g4 hz, cell_keep g5 hz, hz⟩))
        (first | (go_at_call 92; refine (first_ok _ _ _ _ _ _ _ (by omega) (by omega)).mono ?_; rintro e w3 ⟨rfl, hb3⟩) | (go_at_call 106; refine (right_ok' _ _ _ _ _ _ _ (dataV v) _ S2.out (by simp only [dataV]; omega) (by simp only [dataV]; omega) (by omega)).mono ?_; rw [K8.out]; rintro e w3 ⟨rfl, hb3⟩))
      all_goals
        rename_i hh
        obtain ⟨e0, _, e2, e3, e4, e5, e6, e7, hz⟩ := hh
        have r3 := blk_keep HK3.out hz
        obtain ⟨r0, r1, r2, r3', r4, r5⟩ := cells6 r3
        have f0 := free_of r3 0
        have f1 := free_of r3 1
        have f2 := free_of r3 2
        have f3 := free_of r3 3
        have f4 := free_of r3 4
        have f5 := free_of r3 5
        clear r3
        go_wp2
        refine bodyPost_ret (v := .tuple #[.agg #[.int .i64 v.length, .int .i64 (inosV v), .int .i64 1, .int .i64 2, .int .i64 3, .int .i64 (3 + ((inosV v : Nat) + 1 : Int) / 2)], .int .i64 0]) (by simp [results, Try.results71, go_sem, r0, r1, r2, r3', r4, r5]) rfl ⟨rfl, ?_⟩
        exact below_set6 (hB2.trans (hz.mono hB2.size)) (Nat.le_refl _)
end Go.Proofs.Ytacdohlhalnioaa
end

/- Contracts: where things are on a volume (the program's), where it is none. -/
section
set_option linter.unusedSimpArgs false
set_option linter.unusedVariables false
set_option maxRecDepth 20000
namespace Go.Proofs.Ytacdohlhalnioaa
open Go.RowKit

theorem below_drewN' (w : World) (n : Nat) : Below w.heap.size w (w.drewN n) := ⟨rfl, rfl, rfl, Nat.le_refl _, fun _ _ => rfl⟩
theorem no_head {v : Vol} (h : okV v = false) (h1 : sized v = true) (h2 : planE v.length (inosV v) = 0) : bk v 0 ≠ firstB v.length (inosV v) ∨ (bk v 0 = firstB v.length (inosV v) ∧ okmap (bk v 2) (dataV v) v.length = false) := by
  by_cases h3 : bk v 0 = firstB v.length (inosV v)
  · refine .inr ⟨h3, ?_⟩
    simpa [okV, h1, h2, ← h3] using h
  · exact .inl h3

set_option maxHeartbeats 1000000 in
theorem of_no (A : Option Addr) (c : Nat) (v : Vol) (w : World) (hr : RS w A v) (hv : okV v = false) :
    Calls Try.prog 71 #[.slice A v.length c] w fun e w' => e = .returned (.tuple #[.agg #[.int .i64 0, .int .i64 0, .int .i64 0, .int .i64 0, .int .i64 0, .int .i64 0], .int .i64 3]) ∧ Below w.heap.size w w' := by
  have HV := Lib.hid hv
  clear hv
  have hl := hr.1
  go_enter Try.func71, Try.ntmps71
  go_wp2
  go_loop [11] (fun i => ∃ k : Nat, k ≤ v.length ∧ i = .int .i64 k ∧ Hid (∀ j, j < k → (bk v j).length = 128)) (fun i => v.length - (intOf i).toNat)
  case atStart => exact ⟨0, Nat.zero_le _, rfl, fun j hj => by omega⟩
  case round =>
    obtain ⟨k, hk, rfl, K1⟩ := hrel
    by_cases hlt : k < v.length
    · obtain ⟨bA, oA, rfl, hbA, hc⟩ := hr.open_ (by omega)
      have hck := hc k hlt
      clear hc hr
      by_cases hsk : (bk v k).length = 128
      · go_wp2
        refine ⟨⟨k + 1, by omega, by go_num, ?_⟩, by simp only [intOf]; omega⟩
        intro j hj
        by_cases e : j = k
        · rw [e]; exact hsk
        · exact K1.out j (by omega)
      · have hs1 : ((((bk v k).length : Nat) : Int) == 128) = false := by rw [beq_eq_false_iff_ne]; omega
        have hs2 : ((((bk v k).length : Nat) : Int) != 128) = true := by rw [bne_iff_ne]; omega
        go_wp2
        refine bodyPost_ret (v := .tuple #[.agg #[.int .i64 0, .int .i64 0, .int .i64 0, .int .i64 0, .int .i64 0, .int .i64 0], .int .i64 3]) (by simp [results, Try.results71, go_sem]) rfl ⟨rfl, (Below.refl _ _).alloc (Nat.le_refl _) _⟩
    · obtain rfl : k = v.length := by omega
      by_cases h0 : v.length = 0
      · have h01 : ((v.length : Nat) : Int) = 0 := by omega
        go_wp2
        refine bodyPost_ret (v := .tuple #[.agg #[.int .i64 0, .int .i64 0, .int .i64 0, .int .i64 0, .int .i64 0, .int .i64 0], .int .i64 3]) (by simp [results, Try.results71, go_sem]) rfl ⟨rfl, (Below.refl _ _).alloc (Nat.le_refl _) _⟩
      · obtain ⟨bA, oA, rfl, hbA, hc⟩ := hr.open_ (by omega)
        have h1 := sized_iff.2 K1.out
        have hc0 : w.cell? ⟨bA, oA, none⟩ = some (.string (mk (bk v 0))) := by simpa using hc 0 (by omega)
        have HC := Lib.hid hc
        have s0 := K1.out 0 (by omega)
        have S0 := Lib.hid s0
        have b0 : 8 ≤ (bk v 0).length := by omega
        have hpos : 0 < v.length := by omega
        have hz0 : (((v.length : Nat) : Int) == 0) = false := by rw [beq_eq_false_iff_ne]; omega
        have H1 := Lib.hid h1
        have hi := w2_lt (bk v 0) 6
        rw [show w2 (bk v 0) 6 = inosV v from rfl] at hi
        clear hc hr h0 s0 h1
        by_cases hp : planE v.length (inosV v) = 0
        · have HP := Lib.hid hp
          obtain ⟨a1, a2, a3, a4, a5⟩ := planE_ok hp
          have s2 := K1.out 2 (by omega)
          have S2 := Lib.hid s2
          have hc2 := HC.out 2 (by omega)
          clear hp s2
          go_wp2_with (go_at_call 69; refine (get_ok _ _ (by simp; omega)).mono ?_; rw [get_two (bk v 0) S0.out, show w2 (bk v 0) 6 = inosV v from rfl]; rintro e w' ⟨rfl, rfl⟩)
          refine (plan_ok v.length (inosV v) _ (by omega) (by omega) HP.out).mono ?_
          rintro e w1 ⟨rfl, hb1⟩
          have hB1 : Below w.heap.size w w1 := below_keep ((Below.refl _ _).alloc (Nat.le_refl _) _) (Nat.le_refl _) hb1
          have hk1 := blk_keep (blk_new w _) hb1
          have hw1 := blk_lt hk1
          go_wp2_with fail
          have hB2 : Below w.heap.size w (w1.alloc (.cells #[.int .i64 v.length, .int .i64 (inosV v), .int .i64 1, .int .i64 2, .int .i64 3, .int .i64 (3 + ((inosV v : Nat) + 1 : Int) / 2)] 66)) := hB1.alloc hB1.size _
          have hk2 := blk_new w1 (.cells #[.int .i64 v.length, .int .i64 (inosV v), .int .i64 1, .int .i64 2, .int .i64 3, .int .i64 (3 + ((inosV v : Nat) + 1 : Int) / 2)] 66)
          have hk3 := blk_keep hk1 ((Below.refl _ _).alloc (Nat.le_refl _) (.cells #[.int .i64 v.length, .int .i64 (inosV v), .int .i64 1, .int .i64 2, .int .i64 3, .int .i64 (3 + ((inosV v : Nat) + 1 : Int) / 2)] 66))
          generalize w1.alloc (.cells #[.int .i64 v.length, .int .i64 (inosV v), .int .i64 1, .int .i64 2, .int .i64 3, .int .i64 (3 + ((inosV v : Nat) + 1 : Int) / 2)] 66) = W0 at hB2 hk2 hk3 ⊢
          have i0 : (0 : Int) < (v.length : Nat) := by omega
          have i2 : (2 : Int) < (v.length : Nat) := by omega
          have d2 := cell_keep hc2 hB2
          obtain ⟨g0, g1, g2, g3, g4, g5⟩ := cells6 hk2
          have HK2 := Lib.hid hk2
          have HK3 := Lib.hid hk3
          have hor := no_head HV.out H1.out HP.out
          have HC0 := Lib.hid hc0
          clear hk1 hk2 hk3 hc0 hc2
          have i0' := hpos
          rcases hor with hne | ⟨heq, hmap⟩
          · have hne' : (bk v 0 == firstB v.length (inosV v)) = false := by rw [beq_eq_false_iff_ne]; exact hne
            have hne2 : (bk v 0 != firstB v.length (inosV v)) = true := by rw [bne_iff_ne]; exact hne
            have d0 := cell_keep HC0.out hB2
            clear hne
            refine region_P (fun w' => w'.cell? ⟨bA, oA, none⟩ = some (.string (mk (bk v 0))) ∧ w'.cell? ⟨w1.heap.size, 0, none⟩ = some (.int .i64 v.length) ∧ w'.cell? ⟨w1.heap.size, 1, none⟩ = some (.int .i64 (inosV v)) ∧ w'.cell? ⟨w1.heap.size, 2, none⟩ = some (.int .i64 1) ∧ w'.cell? ⟨w1.heap.size, 3, none⟩ = some (.int .i64 2) ∧ w'.cell? ⟨w1.heap.size, 4, none⟩ = some (.int .i64 3) ∧ w'.cell? ⟨w1.heap.size, 5, none⟩ = some (.int .i64 (3 + ((inosV v : Nat) + 1 : Int) / 2)) ∧ Below W0.heap.size W0 w') [] (by kernel_rfl) ?_ (fun hHeld => ?_)
            · exact ⟨d0, g0, g1, g2, g3, g4, g5, (Below.refl _ _).drew⟩
            refine wpP_take (i := 0) (oi := ?oi1) (v := ?v1) ?hi1 (by kernel_rfl) (by kernel_rfl) (by kernel_rfl) (by kernel_rfl) ?hQ1 ?hy1 (by assumption) ?rest1
            case hi1 => (simp only [List.getElem?_toArray, List.getElem?_cons_succ, List.getElem?_cons_zero]; exact rfl)
            case hQ1 => exact fun _ _ _ h => h
            case hy1 => (refine Or.inl ⟨by kernel_rfl, ?_⟩; intro w hSw; (try dsimp only at hSw); go_simp; try (with_reducible rfl))
            try simp only [Act.put, List.setIfInBounds_toArray, List.set_cons_zero, List.set_cons_succ]
            refine wpP_take (i := 1) (oi := ?oi2) (v := ?v2) ?hi2 (by kernel_rfl) (by kernel_rfl) (by kernel_rfl) (by kernel_rfl) ?hQ2 ?hy2 (by assumption) ?rest2
            case hi2 => (simp only [List.getElem?_toArray, List.getElem?_cons_succ, List.getElem?_cons_zero]; exact rfl)
            case hQ2 => exact fun _ _ _ h => h
            case hy2 => (refine Or.inl ⟨by kernel_rfl, ?_⟩; intro w hSw; (try dsimp only at hSw); go_simp; try (with_reducible rfl))
            try simp only [Act.put, List.setIfInBounds_toArray, List.set_cons_zero, List.set_cons_succ]
            refine wpP_take (i := 2) (oi := ?oi3) (v := ?v3) ?hi3 (by kernel_rfl) (by kernel_rfl) (by kernel_rfl) (by kernel_rfl) ?hQ3 ?hy3 (by assumption) ?rest3
            case hi3 => (simp only [List.getElem?_toArray, List.getElem?_cons_succ, List.getElem?_cons_zero]; exact rfl)
            case hQ3 => exact fun _ _ _ h => h
            case hy3 => (refine Or.inl ⟨by kernel_rfl, ?_⟩; intro w hSw; (try dsimp only at hSw); go_simp; try (with_reducible rfl))
            try simp only [Act.put, List.setIfInBounds_toArray, List.set_cons_zero, List.set_cons_succ]
            refine wpP_take (i := 3) (oi := ?oi4) (v := ?v4) ?hi4 (by kernel_rfl) (by kernel_rfl) (by kernel_rfl) (by kernel_rfl) ?hQ4 ?hy4 (by assumption) ?rest4
            case hi4 => (simp only [List.getElem?_toArray, List.getElem?_cons_succ, List.getElem?_cons_zero]; exact rfl)
            case hQ4 => exact fun _ _ _ h => h
            case hy4 => (refine Or.inl ⟨by kernel_rfl, ?_⟩; intro w hSw; (try dsimp only at hSw); go_simp; try (with_reducible rfl))
            try simp only [Act.put, List.setIfInBounds_toArray, List.set_cons_zero, List.set_cons_succ]
            refine wpP_take (i := 4) (oi := ?oi5) (v := ?v5) ?hi5 (by kernel_rfl) (by kernel_rfl) (by kernel_rfl) (by kernel_rfl) ?hQ5 ?hy5 (by assumption) ?rest5
            case hi5 => (simp only [List.getElem?_toArray, List.getElem?_cons_succ, List.getElem?_cons_zero]; exact rfl)
            case hQ5 => exact fun _ _ _ h => h
            case hy5 => (refine Or.inl ⟨by kernel_rfl, ?_⟩; intro w hSw; (try dsimp only at hSw); go_simp; try (with_reducible rfl))
            try simp only [Act.put, List.setIfInBounds_toArray, List.set_cons_zero, List.set_cons_succ]
            refine wpP_take (i := 5) (oi := ?oi6) (v := ?v6) ?hi6 (by kernel_rfl) (by kernel_rfl) (by kernel_rfl) (by kernel_rfl) ?hQ6 ?hy6 (by assumption) ?rest6
            case hi6 => (simp only [List.getElem?_toArray, List.getElem?_cons_succ, List.getElem?_cons_zero]; exact rfl)
            case hQ6 => exact fun _ _ _ h => h
            case hy6 => (refine Or.inl ⟨by kernel_rfl, ?_⟩; intro w hSw; (try dsimp only at hSw); go_simp; try (with_reducible rfl))
            try simp only [Act.put, List.setIfInBounds_toArray, List.set_cons_zero, List.set_cons_succ]
            refine wpP_take (i := 6) (oi := ?oi7) (v := ?v7) ?hi7 (by kernel_rfl) (by kernel_rfl) (by kernel_rfl) (by kernel_rfl) ?hQ7 ?hy7 (by assumption) ?rest7
            case hi7 => (simp only [List.getElem?_toArray, List.getElem?_cons_succ, List.getElem?_cons_zero]; exact rfl)
            case hQ7 => exact fun _ _ _ h => h
            case hy7 => (refine Or.inl ⟨by kernel_rfl, ?_⟩; intro w hSw; (try dsimp only at hSw); go_simp; try (with_reducible rfl))
            try simp only [Act.put, List.setIfInBounds_toArray, List.set_cons_zero, List.set_cons_succ]
            refine wpP_ready (rs := [7]) (by kernel_rfl) (by simp) ?_
            refine AllP.cons (o := ?o8) ?ho8 (fun K hK => ?_) AllP.nil
            case ho8 => (simp only [List.getElem?_toArray, List.getElem?_cons_succ, List.getElem?_cons_zero]; exact rfl)
            go_simp
            go_at_call 92
            refine (first_ok _ _ _ _ _ _ _ (by omega) (by omega)).mono ?_
            rintro e w3 ⟨rfl, hb3⟩
            have hz : Below W0.heap.size W0 w3 := below_keep (Below.refl _ _).drew (Nat.le_refl _) hb3
            refine hK.out _ _ ?_ (fun hHeld => ?_)
            · exact ⟨cell_keep d0 hz, cell_keep g0 hz, cell_keep g1 hz, cell_keep g2 hz, cell_keep g3 hz, cell_keep g4 hz, cell_keep g5 hz, hz⟩
            clear hK K
            try simp only [Act.put, List.setIfInBounds_toArray, List.set_cons_zero, List.set_cons_succ]
            refine wpP_take (i := 8) (oi := ?oi9) (v := ?v9) ?hi9 (by kernel_rfl) (by kernel_rfl) (by kernel_rfl) (by kernel_rfl) ?hQ9 ?hy9 (by assumption) ?rest9
            case hi9 => (simp only [List.getElem?_toArray, List.getElem?_cons_succ, List.getElem?_cons_zero]; exact rfl)
            case hQ9 => exact fun _ _ _ h => h
            case hy9 => (refine Or.inl ⟨by kernel_rfl, ?_⟩; intro w hSw; (try dsimp only at hSw); go_simp; try (with_reducible rfl))
            try simp only [Act.put, List.setIfInBounds_toArray, List.set_cons_zero, List.set_cons_succ]
            refine wpP_take (i := 9) (oi := ?oi10) (v := ?v10) ?hi10 (by kernel_rfl) (by kernel_rfl) (by kernel_rfl) (by kernel_rfl) ?hQ10 ?hy10 (by assumption) ?rest10
            case hi10 => (simp only [List.getElem?_toArray, List.getElem?_cons_succ, List.getElem?_cons_zero]; exact rfl)
            case hQ10 => exact fun _ _ _ h => h
            case hy10 => (refine Or.inl ⟨by kernel_rfl, ?_⟩; intro w hSw; (try dsimp only at hSw); go_simp; try (with_reducible rfl))
            try simp only [Act.put, List.setIfInBounds_toArray, List.set_cons_zero, List.set_cons_succ]
            refine wpP_take (i := 10) (oi := ?oi11) (v := ?v11) ?hi11 (by kernel_rfl) (by kernel_rfl) (by kernel_rfl) (by kernel_rfl) ?hQ11 ?hy11 (by assumption) ?rest11
            case hi11 => (simp only [List.getElem?_toArray, List.getElem?_cons_succ, List.getElem?_cons_zero]; exact rfl)
            case hQ11 => exact fun _ _ _ h => h
            case hy11 => (refine Or.inl ⟨by kernel_rfl, ?_⟩; intro w hSw; (try dsimp only at hSw); go_simp; try (with_reducible rfl))
            try simp only [Act.put, List.setIfInBounds_toArray, List.set_cons_zero, List.set_cons_succ]
            refine wpP_skip 11 50 (by kernel_rfl) (by kernel_rfl) (by kernel_rfl) (by kernel_rfl) (by kernel_rfl) (fun _ _ _ h => h) (by assumption) ?_
            try simp only [Act.put, List.setIfInBounds_toArray, List.set_cons_zero, List.set_cons_succ]
            refine wpP_skip 12 51 (by kernel_rfl) (by kernel_rfl) (by kernel_rfl) (by kernel_rfl) (by kernel_rfl) (fun _ _ _ h => h) (by assumption) ?_
            try simp only [Act.put, List.setIfInBounds_toArray, List.set_cons_zero, List.set_cons_succ]
            refine wpP_skip 13 52 (by kernel_rfl) (by kernel_rfl) (by kernel_rfl) (by kernel_rfl) (by kernel_rfl) (fun _ _ _ h => h) (by assumption) ?_
            try simp only [Act.put, List.setIfInBounds_toArray, List.set_cons_zero, List.set_cons_succ]
            refine wpP_skip 14 53 (by kernel_rfl) (by kernel_rfl) (by kernel_rfl) (by kernel_rfl) (by kernel_rfl) (fun _ _ _ h => h) (by assumption) ?_
            try simp only [Act.put, List.setIfInBounds_toArray, List.set_cons_zero, List.set_cons_succ]
            refine wpP_skip 15 54 (by kernel_rfl) (by kernel_rfl) (by kernel_rfl) (by kernel_rfl) (by kernel_rfl) (fun _ _ _ h => h) (by assumption) ?_
            try simp only [Act.put, List.setIfInBounds_toArray, List.set_cons_zero, List.set_cons_succ]
            refine wpP_skip 16 55 (by kernel_rfl) (by kernel_rfl) (by kernel_rfl) (by kernel_rfl) (by kernel_rfl) (fun _ _ _ h => h) (by assumption) ?_
            try simp only [Act.put, List.setIfInBounds_toArray, List.set_cons_zero, List.set_cons_succ]
            refine wpP_skip 17 56 (by kernel_rfl) (by kernel_rfl) (by kernel_rfl) (by kernel_rfl) (by kernel_rfl) (fun _ _ _ h => h) (by assumption) ?_
            try simp only [Act.put, List.setIfInBounds_toArray, List.set_cons_zero, List.set_cons_succ]
            refine wpP_skip 18 57 (by kernel_rfl) (by kernel_rfl) (by kernel_rfl) (by kernel_rfl) (by kernel_rfl) (fun _ _ _ h => h) (by assumption) ?_
            try simp only [Act.put, List.setIfInBounds_toArray, List.set_cons_zero, List.set_cons_succ]
            refine wpP_take (i := 19) (oi := ?oi20) (v := ?v20) ?hi20 (by kernel_rfl) (by kernel_rfl) (by kernel_rfl) (by kernel_rfl) ?hQ20 ?hy20 (by assumption) ?rest20
            case hi20 => (simp only [List.getElem?_toArray, List.getElem?_cons_succ, List.getElem?_cons_zero]; exact rfl)
            case hQ20 => exact fun _ _ _ h => h
            case hy20 => (refine Or.inl ⟨by kernel_rfl, ?_⟩; intro w hSw; (try dsimp only at hSw); go_simp; try (with_reducible rfl))
            try simp only [Act.put, List.setIfInBounds_toArray, List.set_cons_zero, List.set_cons_succ]
            refine wpP_done (by kernel_rfl) ?_ _
            all_goals
              have r3 := blk_keep HK3.out hz
              obtain ⟨r0, r1, r2, r3', r4, r5⟩ := cells6 r3
              have f0 := free_of r3 0
              have f1 := free_of r3 1
              have f2 := free_of r3 2
              have f3 := free_of r3 3
              have f4 := free_of r3 4
              have f5 := free_of r3 5
              clear r3
              go_wp2
              refine bodyPost_ret (v := .tuple #[.agg #[.int .i64 0, .int .i64 0, .int .i64 0, .int .i64 0, .int .i64 0, .int .i64 0], .int .i64 3]) (by simp [results, Try.results71, go_sem, r0, r1, r2, r3', r4, r5]) rfl ⟨rfl, ?_⟩
              exact below_set6 (hB2.trans (hz.mono hB2.size)) (Nat.le_refl _)
          · have d0 : W0.cell? ⟨bA, oA, none⟩ = some (.string (mk (firstB v.length (inosV v)))) := by rw [← heq]; exact cell_keep HC0.out hB2
            have HM := Lib.hid hmap
            clear heq hmap
            have hdv : (3 + ((inosV v : Nat) + 1 : Int) / 2) = ((dataV v : Nat) : Int) := by simp only [dataV]; omega
            have hdv2 : dataV v ≤ 1024 := by simp only [dataV]; omega
            have hdv3 : v.length ≤ 1024 := by omega
            have HDV := Lib.hid hdv
            clear hdv
            refine region_P (fun w' => w'.cell? ⟨bA, oA, none⟩ = some (.string (mk (firstB v.length (inosV v)))) ∧ w'.cell? ⟨bA, oA + 2, none⟩ = some (.string (mk (bk v 2))) ∧ w'.cell? ⟨w1.heap.size, 0, none⟩ = some (.int .i64 v.length) ∧ w'.cell? ⟨w1.heap.size, 1, none⟩ = some (.int .i64 (inosV v)) ∧ w'.cell? ⟨w1.heap.size, 2, none⟩ = some (.int .i64 1) ∧ w'.cell? ⟨w1.heap.size, 3, none⟩ = some (.int .i64 2) ∧ w'.cell? ⟨w1.heap.size, 4, none⟩ = some (.int .i64 3) ∧ w'.cell? ⟨w1.heap.size, 5, none⟩ = some (.int .i64 (3 + ((inosV v : Nat) + 1 : Int) / 2)) ∧ Below W0.heap.size W0 w') [] (by kernel_rfl) ?_ (fun hHeld => ?_)
            · exact ⟨d0, d2, g0, g1, g2, g3, g4, g5, (Below.refl _ _).drew⟩
            refine wpP_take (i := 0) (oi := ?oi21) (v := ?v21) ?hi21 (by kernel_rfl) (by kernel_rfl) (by kernel_rfl) (by kernel_rfl) ?hQ21 ?hy21 (by assumption) ?rest21
            case hi21 => (simp only [List.getElem?_toArray, List.getElem?_cons_succ, List.getElem?_cons_zero]; exact rfl)
            case hQ21 => exact fun _ _ _ h => h
            case hy21 => (refine Or.inl ⟨by kernel_rfl, ?_⟩; intro w hSw; (try dsimp only at hSw); go_simp; try (with_reducible rfl))
            try simp only [Act.put, List.setIfInBounds_toArray, List.set_cons_zero, List.set_cons_succ]
            refine wpP_take (i := 1) (oi := ?oi22) (v := ?v22) ?hi22 (by kernel_rfl) (by kernel_rfl) (by kernel_rfl) (by kernel_rfl) ?hQ22 ?hy22 (by assumption) ?rest22
            case hi22 => (simp only [List.getElem?_toArray, List.getElem?_cons_succ, List.getElem?_cons_zero]; exact rfl)
            case hQ22 => exact fun _ _ _ h => h
            case hy22 => (refine Or.inl ⟨by kernel_rfl, ?_⟩; intro w hSw; (try dsimp only at hSw); go_simp; try (with_reducible rfl))
            try simp only [Act.put, List.setIfInBounds_toArray, List.set_cons_zero, List.set_cons_succ]
            refine wpP_take (i := 2) (oi := ?oi23) (v := ?v23) ?hi23 (by kernel_rfl) (by kernel_rfl) (by kernel_rfl) (by kernel_rfl) ?hQ23 ?hy23 (by assumption) ?rest23
            case hi23 => (simp only [List.getElem?_toArray, List.getElem?_cons_succ, List.getElem?_cons_zero]; exact rfl)
            case hQ23 => exact fun _ _ _ h => h
            case hy23 => (refine Or.inl ⟨by kernel_rfl, ?_⟩; intro w hSw; (try dsimp only at hSw); go_simp; try (with_reducible rfl))
            try simp only [Act.put, List.setIfInBounds_toArray, List.set_cons_zero, List.set_cons_succ]
            refine wpP_take (i := 3) (oi := ?oi24) (v := ?v24) ?hi24 (by kernel_rfl) (by kernel_rfl) (by kernel_rfl) (by kernel_rfl) ?hQ24 ?hy24 (by assumption) ?rest24
            case hi24 => (simp only [List.getElem?_toArray, List.getElem?_cons_succ, List.getElem?_cons_zero]; exact rfl)
            case hQ24 => exact fun _ _ _ h => h
            case hy24 => (refine Or.inl ⟨by kernel_rfl, ?_⟩; intro w hSw; (try dsimp only at hSw); go_simp; try (with_reducible rfl))
            try simp only [Act.put, List.setIfInBounds_toArray, List.set_cons_zero, List.set_cons_succ]
            refine wpP_take (i := 4) (oi := ?oi25) (v := ?v25) ?hi25 (by kernel_rfl) (by kernel_rfl) (by kernel_rfl) (by kernel_rfl) ?hQ25 ?hy25 (by assumption) ?rest25
            case hi25 => (simp only [List.getElem?_toArray, List.getElem?_cons_succ, List.getElem?_cons_zero]; exact rfl)
            case hQ25 => exact fun _ _ _ h => h
            case hy25 => (refine Or.inl ⟨by kernel_rfl, ?_⟩; intro w hSw; (try dsimp only at hSw); go_simp; try (with_reducible rfl))
            try simp only [Act.put, List.setIfInBounds_toArray, List.set_cons_zero, List.set_cons_succ]
            refine wpP_take (i := 5) (oi := ?oi26) (v := ?v26) ?hi26 (by kernel_rfl) (by kernel_rfl) (by kernel_rfl) (by kernel_rfl) ?hQ26 ?hy26 (by assumption) ?rest26
            case hi26 => (simp only [List.getElem?_toArray, List.getElem?_cons_succ, List.getElem?_cons_zero]; exact rfl)
            case hQ26 => exact fun _ _ _ h => h
            case hy26 => (refine Or.inl ⟨by kernel_rfl, ?_⟩; intro w hSw; (try dsimp only at hSw); go_simp; try (with_reducible rfl))
            try simp only [Act.put, List.setIfInBounds_toArray, List.set_cons_zero, List.set_cons_succ]
            refine wpP_take (i := 6) (oi := ?oi27) (v := ?v27) ?hi27 (by kernel_rfl) (by kernel_rfl) (by kernel_rfl) (by kernel_rfl) ?hQ27 ?hy27 (by assumption) ?rest27
            case hi27 => (simp only [List.getElem?_toArray, List.getElem?_cons_succ, List.getElem?_cons_zero]; exact rfl)
            case hQ27 => exact fun _ _ _ h => h
            case hy27 => (refine Or.inl ⟨by kernel_rfl, ?_⟩; intro w hSw; (try dsimp only at hSw); go_simp; try (with_reducible rfl))
            try simp only [Act.put, List.setIfInBounds_toArray, List.set_cons_zero, List.set_cons_succ]
            refine wpP_ready (rs := [7]) (by kernel_rfl) (by simp) ?_
            refine AllP.cons (o := ?o28) ?ho28 (fun K hK => ?_) AllP.nil
            case ho28 => (simp only [List.getElem?_toArray, List.getElem?_cons_succ, List.getElem?_cons_zero]; exact rfl)
            go_simp
            go_at_call 92
            refine (first_ok _ _ _ _ _ _ _ (by omega) (by omega)).mono ?_
            rintro e w3 ⟨rfl, hb3⟩
            have hz3 : Below W0.heap.size W0 w3 := below_keep (Below.refl _ _).drew (Nat.le_refl _) hb3
            refine hK.out _ _ ?_ (fun hHeld => ?_)
            · exact ⟨cell_keep d0 hz3, cell_keep d2 hz3, cell_keep g0 hz3, cell_keep g1 hz3, cell_keep g2 hz3, cell_keep g3 hz3, cell_keep g4 hz3, cell_keep g5 hz3, hz3⟩
            clear hK K
            try simp only [Act.put, List.setIfInBounds_toArray, List.set_cons_zero, List.set_cons_succ]
            refine wpP_take (i := 8) (oi := ?oi29) (v := ?v29) ?hi29 (by kernel_rfl) (by kernel_rfl) (by kernel_rfl) (by kernel_rfl) ?hQ29 ?hy29 (by assumption) ?rest29
            case hi29 => (simp only [List.getElem?_toArray, List.getElem?_cons_succ, List.getElem?_cons_zero]; exact rfl)
            case hQ29 => exact fun _ _ _ h => h
            case hy29 => (refine Or.inl ⟨by kernel_rfl, ?_⟩; intro w hSw; (try dsimp only at hSw); go_simp; try (with_reducible rfl))
            try simp only [Act.put, List.setIfInBounds_toArray, List.set_cons_zero, List.set_cons_succ]
            refine wpP_take (i := 9) (oi := ?oi30) (v := ?v30) ?hi30 (by kernel_rfl) (by kernel_rfl) (by kernel_rfl) (by kernel_rfl) ?hQ30 ?hy30 (by assumption) ?rest30
            case hi30 => (simp only [List.getElem?_toArray, List.getElem?_cons_succ, List.getElem?_cons_zero]; exact rfl)
            case hQ30 => exact fun _ _ _ h => h
            case hy30 => (refine Or.inl ⟨by kernel_rfl, ?_⟩; intro w hSw; (try dsimp only at hSw); go_simp; try (with_reducible rfl))
            try simp only [Act.put, List.setIfInBounds_toArray, List.set_cons_zero, List.set_cons_succ]
            refine wpP_take (i := 10) (oi := ?oi31) (v := ?v31) ?hi31 (by kernel_rfl) (by kernel_rfl) (by kernel_rfl) (by kernel_rfl) ?hQ31 ?hy31 (by assumption) ?rest31
            case hi31 => (simp only [List.getElem?_toArray, List.getElem?_cons_succ, List.getElem?_cons_zero]; exact rfl)
            case hQ31 => exact fun _ _ _ h => h
            case hy31 => (refine Or.inl ⟨by kernel_rfl, ?_⟩; intro w hSw; (try dsimp only at hSw); go_simp; try (with_reducible rfl))
            try simp only [Act.put, List.setIfInBounds_toArray, List.set_cons_zero, List.set_cons_succ]
            refine wpP_take (i := 11) (oi := ?oi32) (v := ?v32) ?hi32 (by kernel_rfl) (by kernel_rfl) (by kernel_rfl) (by kernel_rfl) ?hQ32 ?hy32 (by assumption) ?rest32
            case hi32 => (simp only [List.getElem?_toArray, List.getElem?_cons_succ, List.getElem?_cons_zero]; exact rfl)
            case hQ32 => exact fun _ _ _ h => h
            case hy32 => (refine Or.inl ⟨by kernel_rfl, ?_⟩; intro w hSw; (try dsimp only at hSw); go_simp; try (with_reducible rfl))
            try simp only [Act.put, List.setIfInBounds_toArray, List.set_cons_zero, List.set_cons_succ]
            refine wpP_take (i := 12) (oi := ?oi33) (v := ?v33) ?hi33 (by kernel_rfl) (by kernel_rfl) (by kernel_rfl) (by kernel_rfl) ?hQ33 ?hy33 (by assumption) ?rest33
            case hi33 => (simp only [List.getElem?_toArray, List.getElem?_cons_succ, List.getElem?_cons_zero]; exact rfl)
            case hQ33 => exact fun _ _ _ h => h
            case hy33 => (refine Or.inl ⟨by kernel_rfl, ?_⟩; intro w hSw; (try dsimp only at hSw); go_simp; try (with_reducible rfl))
            try simp only [Act.put, List.setIfInBounds_toArray, List.set_cons_zero, List.set_cons_succ]
            refine wpP_take (i := 13) (oi := ?oi34) (v := ?v34) ?hi34 (by kernel_rfl) (by kernel_rfl) (by kernel_rfl) (by kernel_rfl) ?hQ34 ?hy34 (by assumption) ?rest34
            case hi34 => (simp only [List.getElem?_toArray, List.getElem?_cons_succ, List.getElem?_cons_zero]; exact rfl)
            case hQ34 => exact fun _ _ _ h => h
            case hy34 => (refine Or.inl ⟨by kernel_rfl, ?_⟩; intro w hSw; (try dsimp only at hSw); go_simp; try (with_reducible rfl))
            try simp only [Act.put, List.setIfInBounds_toArray, List.set_cons_zero, List.set_cons_succ]
            refine wpP_take (i := 14) (oi := ?oi35) (v := ?v35) ?hi35 (by kernel_rfl) (by kernel_rfl) (by kernel_rfl) (by kernel_rfl) ?hQ35 ?hy35 (by assumption) ?rest35
            case hi35 => (simp only [List.getElem?_toArray, List.getElem?_cons_succ, List.getElem?_cons_zero]; exact rfl)
            case hQ35 => exact fun _ _ _ h => h
            case hy35 => (refine Or.inl ⟨by kernel_rfl, ?_⟩; intro w hSw; (try dsimp only at hSw); go_simp; try (with_reducible rfl))
            try simp only [Act.put, List.setIfInBounds_toArray, List.set_cons_zero, List.set_cons_succ]
            refine wpP_take (i := 15) (oi := ?oi36) (v := ?v36) ?hi36 (by kernel_rfl) (by kernel_rfl) (by kernel_rfl) (by kernel_rfl) ?hQ36 ?hy36 (by assumption) ?rest36
            case hi36 => (simp only [List.getElem?_toArray, List.getElem?_cons_succ, List.getElem?_cons_zero]; exact rfl)
            case hQ36 => exact fun _ _ _ h => h
            case hy36 => (refine Or.inl ⟨by kernel_rfl, ?_⟩; intro w hSw; (try dsimp only at hSw); go_simp; try (with_reducible rfl))
            try simp only [Act.put, List.setIfInBounds_toArray, List.set_cons_zero, List.set_cons_succ]
            refine wpP_take (i := 16) (oi := ?oi37) (v := ?v37) ?hi37 (by kernel_rfl) (by kernel_rfl) (by kernel_rfl) (by kernel_rfl) ?hQ37 ?hy37 (by assumption) ?rest37
            case hi37 => (simp only [List.getElem?_toArray, List.getElem?_cons_succ, List.getElem?_cons_zero]; exact rfl)
            case hQ37 => exact fun _ _ _ h => h
            case hy37 => (refine Or.inl ⟨by kernel_rfl, ?_⟩; intro w hSw; (try dsimp only at hSw); go_simp; try (with_reducible rfl))
            try simp only [Act.put, List.setIfInBounds_toArray, List.set_cons_zero, List.set_cons_succ]
            refine wpP_ready (rs := [17]) (by kernel_rfl) (by simp) ?_
            refine AllP.cons (o := ?o38) ?ho38 (fun K hK => ?_) AllP.nil
            case ho38 => (simp only [List.getElem?_toArray, List.getElem?_cons_succ, List.getElem?_cons_zero]; exact rfl)
            go_simp
            go_at_call 106
            refine (right_ok' _ _ _ _ _ _ _ (dataV v) _ S2.out HDV.out hdv2 hdv3).mono ?_
            rw [HM.out]
            rintro e w4 ⟨rfl, hb4⟩
            have hz : Below W0.heap.size W0 w4 := below_keep hz3 (Nat.le_refl _) hb4
            refine hK.out _ _ ?_ (fun hHeld => ?_)
            · exact ⟨cell_keep d0 hz, cell_keep d2 hz, cell_keep g0 hz, cell_keep g1 hz, cell_keep g2 hz, cell_keep g3 hz, cell_keep g4 hz, cell_keep g5 hz, hz⟩
            clear hK K
            try simp only [Act.put, List.setIfInBounds_toArray, List.set_cons_zero, List.set_cons_succ]
            refine wpP_take (i := 18) (oi := ?oi39) (v := ?v39) ?hi39 (by kernel_rfl) (by kernel_rfl) (by kernel_rfl) (by kernel_rfl) ?hQ39 ?hy39 (by assumption) ?rest39
            case hi39 => (simp only [List.getElem?_toArray, List.getElem?_cons_succ, List.getElem?_cons_zero]; exact rfl)
            case hQ39 => exact fun _ _ _ h => h
            case hy39 => (refine Or.inl ⟨by kernel_rfl, ?_⟩; intro w hSw; (try dsimp only at hSw); go_simp; try (with_reducible rfl))
            try simp only [Act.put, List.setIfInBounds_toArray, List.set_cons_zero, List.set_cons_succ]
            refine wpP_take (i := 19) (oi := ?oi40) (v := ?v40) ?hi40 (by kernel_rfl) (by kernel_rfl) (by kernel_rfl) (by kernel_rfl) ?hQ40 ?hy40 (by assumption) ?rest40
            case hi40 => (simp only [List.getElem?_toArray, List.getElem?_cons_succ, List.getElem?_cons_zero]; exact rfl)
            case hQ40 => exact fun _ _ _ h => h
            case hy40 => (refine Or.inl ⟨by kernel_rfl, ?_⟩; intro w hSw; (try dsimp only at hSw); go_simp; try (with_reducible rfl))
            try simp only [Act.put, List.setIfInBounds_toArray, List.set_cons_zero, List.set_cons_succ]
            refine wpP_done (by kernel_rfl) ?_ _
            all_goals
              have r3 := blk_keep HK3.out hz
              obtain ⟨r0, r1, r2, r3', r4, r5⟩ := cells6 r3
              have f0 := free_of r3 0
              have f1 := free_of r3 1
              have f2 := free_of r3 2
              have f3 := free_of r3 3
              have f4 := free_of r3 4
              have f5 := free_of r3 5
              clear r3
              go_wp2
              refine bodyPost_ret (v := .tuple #[.agg #[.int .i64 0, .int .i64 0, .int .i64 0, .int .i64 0, .int .i64 0, .int .i64 0], .int .i64 3]) (by simp [results, Try.results71, go_sem, r0, r1, r2, r3', r4, r5]) rfl ⟨rfl, ?_⟩
              exact below_set6 (hB2.trans (hz.mono hB2.size)) (Nat.le_refl _)
        · have hc0' := cell_keep hc0 ((Below.refl _ _).alloc (Nat.le_refl _) (.cells #[.int .i64 0, .int .i64 0, .int .i64 0, .int .i64 0, .int .i64 0, .int .i64 0] 66))
          have hbig : v.length ≤ 8796093022208 := hl
          have HP := Lib.hid hp
          go_wp2_with (go_at_call 69; refine (get_ok _ _ (by simp; omega)).mono ?_; rw [get_two (bk v 0) S0.out, show w2 (bk v 0) 6 = inosV v from rfl]; rintro e w' ⟨rfl, rfl⟩)
          refine (plan_no v.length (inosV v) _ (by omega) (by omega) HP.out).mono ?_
          have he : planE v.length (inosV v) = 2 ∨ planE v.length (inosV v) = 10 := by
            rcases planE_no hp with h | h
            · exact .inl h.2
            · exact .inr h.2.2.2.2.2
          clear hp
          have HE := Lib.hid he
          clear he
          rcases HE.out with he | he
          all_goals
            rw [he]
            clear he
            rintro e w1 ⟨rfl, hb1⟩
            have hB1 : Below w.heap.size w w1 := below_keep ((Below.refl _ _).alloc (Nat.le_refl _) _) (Nat.le_refl _) hb1
            have hk1 := blk_keep (blk_new w _) hb1
            have hw1 := blk_lt hk1
            have HK1 := Lib.hid hk1
            clear hk1
            go_wp2_with fail
            have hB2 : Below w.heap.size w (w1.alloc (.cells #[.int .i64 0, .int .i64 0, .int .i64 0, .int .i64 0, .int .i64 0, .int .i64 0] 66)) := hB1.alloc hB1.size _
            have hk3 := blk_keep HK1.out ((Below.refl _ _).alloc (Nat.le_refl _) (.cells #[.int .i64 0, .int .i64 0, .int .i64 0, .int .i64 0, .int .i64 0, .int .i64 0] 66))
            generalize w1.alloc (.cells #[.int .i64 0, .int .i64 0, .int .i64 0, .int .i64 0, .int .i64 0, .int .i64 0] 66) = W0 at hB2 hk3 ⊢
            have HK3 := Lib.hid hk3
            clear hk3
            go_quiet (fail)
            rename_i nq
            have hz : Below W0.heap.size W0 (W0.drewN nq) := below_drewN' _ _
            have r3 := blk_keep HK3.out hz
            obtain ⟨r0, r1, r2, r3', r4, r5⟩ := cells6 r3
            have f0 := free_of r3 0
            have f1 := free_of r3 1
            have f2 := free_of r3 2
            have f3 := free_of r3 3
            have f4 := free_of r3 4
            have f5 := free_of r3 5
            clear r3
            go_wp2
            refine bodyPost_ret (v := .tuple #[.agg #[.int .i64 0, .int .i64 0, .int .i64 0, .int .i64 0, .int .i64 0, .int .i64 0], .int .i64 3]) (by simp [results, Try.results71, go_sem, r0, r1, r2, r3', r4, r5]) rfl ⟨rfl, ?_⟩
            exact below_set6 (hB2.trans (hz.mono hB2.size)) (Nat.le_refl _)
end Go.Proofs.Ytacdohlhalnioaa
end

/- Contracts: where things are on a volume (the reference's). -/
section
set_option linter.unusedSimpArgs false
set_option linter.unusedVariables false
set_option maxRecDepth 20000
namespace Go.Proofs.Ytacdohlhalnioaa
open Go.RowKit

set_option maxHeartbeats 2000000 in
theorem rof_ok (A : Option Addr) (c : Nat) (v : Vol) (w : World) (hr : RS w A v) (hv : okV v = true) :
    Calls Try.prog 46 #[.slice A v.length c] w fun e w' => e = .returned (.tuple #[.agg #[.int .i64 v.length, .int .i64 (inosV v), .int .i64 1, .int .i64 2, .int .i64 3, .int .i64 (3 + ((inosV v : Nat) + 1 : Int) / 2)], .int .i64 0]) ∧ Below w.heap.size w w' := by
  have HV := Lib.hid hv
  clear hv
  have hl := hr.1
  have H := okV_iff.1 HV.out
  obtain ⟨h1, a1, a2, a3, a4, a5, h7, h8⟩ := H
  have KS := Lib.hid h1
  have K7 := Lib.hid h7
  have K8 := Lib.hid h8
  clear h1 h7 h8
  have h3 : ¬ v.length < 3 := by omega
  go_enter Try.func46, Try.ntmps46
  go_wp2
  go_loop [15] (fun i => ∃ k : Nat, k ≤ v.length ∧ i = .int .i64 k ∧ Hid (∀ j, j < k → (bk v j).length = 128)) (fun i => v.length - (intOf i).toNat)
  case atStart => exact ⟨0, Nat.zero_le _, rfl, fun j hj => by omega⟩
  case round =>
    obtain ⟨k, hk, rfl, K1⟩ := hrel
    by_cases hlt : k < v.length
    · obtain ⟨bA, oA, rfl, hbA, hc⟩ := hr.open_ (by omega)
      have hck := hc k hlt
      clear hc hr
      by_cases hsk : (bk v k).length = 128
      · go_wp2
        refine ⟨⟨k + 1, by omega, by go_num, ?_⟩, by simp only [intOf]; omega⟩
        intro j hj
        by_cases e : j = k
        · rw [e]; exact hsk
        · exact K1.out j (by omega)
      · exact absurd (KS.out k hlt) hsk
    · obtain rfl : k = v.length := by omega
      obtain ⟨bA, oA, rfl, hbA, hc⟩ := hr.open_ (by omega)
      have hc0 : w.cell? ⟨bA, oA, none⟩ = some (.string (mk (bk v 0))) := by simpa using hc 0 (by omega)
      have hc2 := hc 2 (by omega)
      have s0 := K1.out 0 (by omega)
      have s2 := K1.out 2 (by omega)
      have S0 := Lib.hid s0
      have S2 := Lib.hid s2
      have b0 : 8 ≤ (bk v 0).length := by omega
      have hp : planE v.length (inosV v) = 0 := by rw [planE, if_neg (by omega), if_neg (by omega)]
      have HP := Lib.hid hp
      clear hc hr hp s0 s2
      go_wp2_with (go_at_call 75; refine (rget_ok _ _ (by simp; omega)).mono ?_; rw [get_two (bk v 0) S0.out, show w2 (bk v 0) 6 = inosV v from rfl]; rintro e w' ⟨rfl, rfl⟩)
      refine (rplan_ok v.length (inosV v) _ (by omega) (by omega) HP.out).mono ?_
      rintro e w1 ⟨rfl, hb1⟩
      have hB1 : Below w.heap.size w w1 := below_keep ((Below.refl _ _).alloc (Nat.le_refl _) _) (Nat.le_refl _) hb1
      have hk1 := blk_keep (blk_new w _) hb1
      have hw1 := blk_lt hk1
      go_wp2_with fail
      have hB2 : Below w.heap.size w (w1.alloc (.cells #[.int .i64 v.length, .int .i64 (inosV v), .int .i64 1, .int .i64 2, .int .i64 3, .int .i64 (3 + ((inosV v : Nat) + 1 : Int) / 2)] 66)) := hB1.alloc hB1.size _
      have hk2 := blk_new w1 (.cells #[.int .i64 v.length, .int .i64 (inosV v), .int .i64 1, .int .i64 2, .int .i64 3, .int .i64 (3 + ((inosV v : Nat) + 1 : Int) / 2)] 66)
      have hk3 := blk_keep hk1 ((Below.refl _ _).alloc (Nat.le_refl _) (.cells #[.int .i64 v.length, .int .i64 (inosV v), .int .i64 1, .int .i64 2, .int .i64 3, .int .i64 (3 + ((inosV v : Nat) + 1 : Int) / 2)] 66))
      generalize w1.alloc (.cells #[.int .i64 v.length, .int .i64 (inosV v), .int .i64 1, .int .i64 2, .int .i64 3, .int .i64 (3 + ((inosV v : Nat) + 1 : Int) / 2)] 66) = W0 at hB2 hk2 hk3 ⊢
      have i0 : (0 : Int) < (v.length : Nat) := by omega
      have i2 : (2 : Int) < (v.length : Nat) := by omega
      have i0' : 0 < v.length := by omega
      obtain ⟨g0, g1, g2, g3, g4, g5⟩ := cells6 hk2
      have HK2 := Lib.hid hk2
      have HK3 := Lib.hid hk3
      have HC0 := Lib.hid hc0
      have HC2 := Lib.hid hc2
      clear hk1 hk2 hk3 hc0 hc2
      have d0 : W0.cell? ⟨bA, oA, none⟩ = some (.string (mk (firstB v.length (inosV v)))) := by rw [← K7.out]; exact cell_keep HC0.out hB2
      refine region_P (fun w' => w'.cell? ⟨bA, oA, none⟩ = some (.string (mk (firstB v.length (inosV v)))) ∧ w'.cell? ⟨w1.heap.size, 0, none⟩ = some (.int .i64 v.length) ∧ w'.cell? ⟨w1.heap.size, 1, none⟩ = some (.int .i64 (inosV v)) ∧ w'.cell? ⟨w1.heap.size, 2, none⟩ = some (.int .i64 1) ∧ w'.cell? ⟨w1.heap.size, 3, none⟩ = some (.int .i64 2) ∧ w'.cell? ⟨w1.heap.size, 4, none⟩ = some (.int .i64 3) ∧ w'.cell? ⟨w1.heap.size, 5, none⟩ = some (.int .i64 (3 + ((inosV v : Nat) + 1 : Int) / 2)) ∧ Below W0.heap.size W0 w') [] (by kernel_rfl) ?_ (fun hHeld => ?_)
      · exact ⟨d0, g0, g1, g2, g3, g4, g5, (Below.refl _ _).drew⟩
      refine wpP_take (i := 0) (oi := ?oi1) (v := ?v1) ?hi1 (by kernel_rfl) (by kernel_rfl) (by kernel_rfl) (by kernel_rfl) ?hQ1 ?hy1 (by assumption) ?rest1
      case hi1 => (simp only [List.getElem?_toArray, List.getElem?_cons_succ, List.getElem?_cons_zero]; exact rfl)
      case hQ1 => exact fun _ _ _ h => h
      case hy1 => (refine Or.inl ⟨by kernel_rfl, ?_⟩; intro w hSw; (try dsimp only at hSw); go_simp; try (with_reducible rfl))
      try simp only [Act.put, List.setIfInBounds_toArray, List.set_cons_zero, List.set_cons_succ]
      refine wpP_take (i := 1) (oi := ?oi2) (v := ?v2) ?hi2 (by kernel_rfl) (by kernel_rfl) (by kernel_rfl) (by kernel_rfl) ?hQ2 ?hy2 (by assumption) ?rest2
      case hi2 => (simp only [List.getElem?_toArray, List.getElem?_cons_succ, List.getElem?_cons_zero]; exact rfl)
      case hQ2 => exact fun _ _ _ h => h
      case hy2 => (refine Or.inl ⟨by kernel_rfl, ?_⟩; intro w hSw; (try dsimp only at hSw); go_simp; try (with_reducible rfl))
      try simp only [Act.put, List.setIfInBounds_toArray, List.set_cons_zero, List.set_cons_succ]
      refine wpP_take (i := 2) (oi := ?oi3) (v := ?v3) ?hi3 (by kernel_rfl) (by kernel_rfl) (by kernel_rfl) (by kernel_rfl) ?hQ3 ?hy3 (by assumption) ?rest3
      case hi3 => (simp only [List.getElem?_toArray, List.getElem?_cons_succ, List.getElem?_cons_zero]; exact rfl)
      case hQ3 => exact fun _ _ _ h => h
      case hy3 => (refine Or.inl ⟨by kernel_rfl, ?_⟩; intro w hSw; (try dsimp only at hSw); go_simp; try (with_reducible rfl))
      try simp only [Act.put, List.setIfInBounds_toArray, List.set_cons_zero, List.set_cons_succ]
      refine wpP_take (i := 3) (oi := ?oi4) (v := ?v4) ?hi4 (by kernel_rfl) (by kernel_rfl) (by kernel_rfl) (by kernel_rfl) ?hQ4 ?hy4 (by assumption) ?rest4
      case hi4 => (simp only [List.getElem?_toArray, List.getElem?_cons_succ, List.getElem?_cons_zero]; exact rfl)
      case hQ4 => exact fun _ _ _ h => h
      case hy4 => (refine Or.inl ⟨by kernel_rfl, ?_⟩; intro w hSw; (try dsimp only at hSw); go_simp; try (with_reducible rfl))
      try simp only [Act.put, List.setIfInBounds_toArray, List.set_cons_zero, List.set_cons_succ]
      refine wpP_take (i := 4) (oi := ?oi5) (v := ?v5) ?hi5 (by kernel_rfl) (by kernel_rfl) (by kernel_rfl) (by kernel_rfl) ?hQ5 ?hy5 (by assumption) ?rest5
      case hi5 => (simp only [List.getElem?_toArray, List.getElem?_cons_succ, List.getElem?_cons_zero]; exact rfl)
      case hQ5 => exact fun _ _ _ h => h
      case hy5 => (refine Or.inl ⟨by kernel_rfl, ?_⟩; intro w hSw; (try dsimp only at hSw); go_simp; try (with_reducible rfl))
      try simp only [Act.put, List.setIfInBounds_toArray, List.set_cons_zero, List.set_cons_succ]
      refine wpP_take (i := 5) (oi := ?oi6) (v := ?v6) ?hi6 (by kernel_rfl) (by kernel_rfl) (by kernel_rfl) (by kernel_rfl) ?hQ6 ?hy6 (by assumption) ?rest6
      case hi6 => (simp only [List.getElem?_toArray, List.getElem?_cons_succ, List.getElem?_cons_zero]; exact rfl)
      case hQ6 => exact fun _ _ _ h => h
      case hy6 => (refine Or.inl ⟨by kernel_rfl, ?_⟩; intro w hSw; (try dsimp only at hSw); go_simp; try (with_reducible rfl))
      try simp only [Act.put, List.setIfInBounds_toArray, List.set_cons_zero, List.set_cons_succ]
      refine wpP_take (i := 6) (oi := ?oi7) (v := ?v7) ?hi7 (by kernel_rfl) (by kernel_rfl) (by kernel_rfl) (by kernel_rfl) ?hQ7 ?hy7 (by assumption) ?rest7
      case hi7 => (simp only [List.getElem?_toArray, List.getElem?_cons_succ, List.getElem?_cons_zero]; exact rfl)
      case hQ7 => exact fun _ _ _ h => h
      case hy7 => (refine Or.inl ⟨by kernel_rfl, ?_⟩; intro w hSw; (try dsimp only at hSw); go_simp; try (with_reducible rfl))
      try simp only [Act.put, List.setIfInBounds_toArray, List.set_cons_zero, List.set_cons_succ]
      refine wpP_ready (rs := [7]) (by kernel_rfl) (by simp) ?_
      refine AllP.cons (o := ?o8) ?ho8 (fun K hK => ?_) AllP.nil
      case ho8 => (simp only [List.getElem?_toArray, List.getElem?_cons_succ, List.getElem?_cons_zero]; exact rfl)
      go_simp
      go_at_call 87
      refine (rhead_ok _ _ _ _ _ _ _ (by omega) (by omega)).mono ?_
      rintro e w3 ⟨rfl, hb3⟩
      have hz : Below W0.heap.size W0 w3 := below_keep (Below.refl _ _).drew (Nat.le_refl _) hb3
      refine hK.out _ _ ?_ (fun hHeld => ?_)
      · exact ⟨cell_keep d0 hz, cell_keep g0 hz, cell_keep g1 hz, cell_keep g2 hz, cell_keep g3 hz, cell_keep g4 hz, cell_keep g5 hz, hz⟩
      clear hK K
      try simp only [Act.put, List.setIfInBounds_toArray, List.set_cons_zero, List.set_cons_succ]
      refine wpP_take (i := 8) (oi := ?oi9) (v := ?v9) ?hi9 (by kernel_rfl) (by kernel_rfl) (by kernel_rfl) (by kernel_rfl) ?hQ9 ?hy9 (by assumption) ?rest9
      case hi9 => (simp only [List.getElem?_toArray, List.getElem?_cons_succ, List.getElem?_cons_zero]; exact rfl)
      case hQ9 => exact fun _ _ _ h => h
      case hy9 => (refine Or.inl ⟨by kernel_rfl, ?_⟩; intro w hSw; (try dsimp only at hSw); go_simp; try (with_reducible rfl))
      try simp only [Act.put, List.setIfInBounds_toArray, List.set_cons_zero, List.set_cons_succ]
      refine wpP_take (i := 9) (oi := ?oi10) (v := ?v10) ?hi10 (by kernel_rfl) (by kernel_rfl) (by kernel_rfl) (by kernel_rfl) ?hQ10 ?hy10 (by assumption) ?rest10
      case hi10 => (simp only [List.getElem?_toArray, List.getElem?_cons_succ, List.getElem?_cons_zero]; exact rfl)
      case hQ10 => exact fun _ _ _ h => h
      case hy10 => (refine Or.inl ⟨by kernel_rfl, ?_⟩; intro w hSw; (try dsimp only at hSw); go_simp; try (with_reducible rfl))
      try simp only [Act.put, List.setIfInBounds_toArray, List.set_cons_zero, List.set_cons_succ]
      refine wpP_done (by kernel_rfl) ?_ _
      have hB3 : Below w.heap.size w w3 := hB2.trans (hz.mono hB2.size)
      have HKR := Lib.hid (blk_keep HK3.out hz)
      obtain ⟨q0, q1, q2, q3, q4, q5⟩ := cells6 (blk_keep HK2.out hz)
      have d2 := cell_keep HC2.out hB3
      clear g0 g1 g2 g3 g4 g5 d0 hb3 hB2 hB1 hb1
      rename_i hheld
      clear hheld
      go_wp2
      go_loop [8] (fun i => ∃ k : Nat, k ≤ 1024 ∧ i = .int .i64 k) (fun i => 1024 - (intOf i).toNat)
      case atStart => exact ⟨0, Nat.zero_le _, rfl⟩
      case round =>
        obtain ⟨q, hq, rfl⟩ := hrel
        by_cases hlt2 : q < 1024
        · have hbit := (okmap_iff.1 K8.out) q hlt2
          by_cases c1 : q < dataV v
          · have e1 := hbit.1 c1
            have c1' : (q : Int) < 3 + ((inosV v : Nat) + 1 : Int) / 2 := by simp only [dataV] at c1; omega
            have c2' : (q : Int) < (v.length : Nat) := by simp only [dataV] at c1; omega
            clear hbit
            go_wp2_with (go_at_call 88; refine (rbit_ok _ q _ S2.out hlt2).mono ?_; rintro e w' ⟨rfl, rfl⟩)
            refine ⟨⟨q + 1, by omega, by go_num⟩, by simp only [intOf]; omega⟩
          · have c1' : 3 + ((inosV v : Nat) + 1 : Int) / 2 ≤ (q : Int) := by simp only [dataV] at c1; omega
            by_cases c2 : v.length ≤ q
            · have e1 := hbit.2 c2
              clear hbit
              go_wp2_with (go_at_call 88; refine (rbit_ok _ q _ S2.out hlt2).mono ?_; rintro e w' ⟨rfl, rfl⟩)
              refine ⟨⟨q + 1, by omega, by go_num⟩, by simp only [intOf]; omega⟩
            · clear hbit
              go_wp2
              refine ⟨⟨q + 1, by omega, by go_num⟩, by simp only [intOf]; omega⟩
        · obtain rfl : q = 1024 := by omega
          obtain ⟨r0, r1, r2, r3', r4, r5⟩ := cells6 HKR.out
          have f0 := free_of HKR.out 0
          have f1 := free_of HKR.out 1
          have f2 := free_of HKR.out 2
          have f3 := free_of HKR.out 3
          have f4 := free_of HKR.out 4
          have f5 := free_of HKR.out 5
          go_wp2
          refine bodyPost_ret (v := .tuple #[.agg #[.int .i64 v.length, .int .i64 (inosV v), .int .i64 1, .int .i64 2, .int .i64 3, .int .i64 (3 + ((inosV v : Nat) + 1 : Int) / 2)], .int .i64 0]) (by simp [results, Try.results46, go_sem, r0, r1, r2, r3', r4, r5]) rfl ⟨rfl, ?_⟩
          exact below_set6 hB3 (Nat.le_refl _)
set_option maxHeartbeats 2000000 in
theorem rof_no (A : Option Addr) (c : Nat) (v : Vol) (w : World) (hr : RS w A v) (hv : okV v = false) :
    Calls Try.prog 46 #[.slice A v.length c] w fun e w' => e = .returned (.tuple #[.agg #[.int .i64 0, .int .i64 0, .int .i64 0, .int .i64 0, .int .i64 0, .int .i64 0], .int .i64 3]) ∧ Below w.heap.size w w' := by
  have HV := Lib.hid hv
  clear hv
  have hl := hr.1
  by_cases h3 : v.length < 3
  · go_enter Try.func46, Try.ntmps46
    go_wp2
    refine bodyPost_ret (v := .tuple #[.agg #[.int .i64 0, .int .i64 0, .int .i64 0, .int .i64 0, .int .i64 0, .int .i64 0], .int .i64 3]) (by simp [results, Try.results46, go_sem]) rfl ⟨rfl, (Below.refl _ _).alloc (Nat.le_refl _) _⟩
  · go_enter Try.func46, Try.ntmps46
    go_wp2
    go_loop [15] (fun i => ∃ k : Nat, k ≤ v.length ∧ i = .int .i64 k ∧ Hid (∀ j, j < k → (bk v j).length = 128)) (fun i => v.length - (intOf i).toNat)
    case atStart => exact ⟨0, Nat.zero_le _, rfl, fun j hj => by omega⟩
    case round =>
      obtain ⟨k, hk, rfl, K1⟩ := hrel
      by_cases hlt : k < v.length
      · obtain ⟨bA, oA, rfl, hbA, hc⟩ := hr.open_ (by omega)
        have hck := hc k hlt
        clear hc hr
        by_cases hsk : (bk v k).length = 128
        · go_wp2
          refine ⟨⟨k + 1, by omega, by go_num, ?_⟩, by simp only [intOf]; omega⟩
          intro j hj
          by_cases e : j = k
          · rw [e]; exact hsk
          · exact K1.out j (by omega)
        · have hs1 : ((((bk v k).length : Nat) : Int) == 128) = false := by rw [beq_eq_false_iff_ne]; omega
          have hs2 : ((((bk v k).length : Nat) : Int) != 128) = true := by rw [bne_iff_ne]; omega
          go_wp2
          refine bodyPost_ret (v := .tuple #[.agg #[.int .i64 0, .int .i64 0, .int .i64 0, .int .i64 0, .int .i64 0, .int .i64 0], .int .i64 3]) (by simp [results, Try.results46, go_sem]) rfl ⟨rfl, (Below.refl _ _).alloc (Nat.le_refl _) _⟩
      · obtain rfl : k = v.length := by omega
        obtain ⟨bA, oA, rfl, hbA, hc⟩ := hr.open_ (by omega)
        have h1 := sized_iff.2 K1.out
        have H1 := Lib.hid h1
        have hc0 : w.cell? ⟨bA, oA, none⟩ = some (.string (mk (bk v 0))) := by simpa using hc 0 (by omega)
        have hc2 := hc 2 (by omega)
        have s0 := K1.out 0 (by omega)
        have s2 := K1.out 2 (by omega)
        have S0 := Lib.hid s0
        have S2 := Lib.hid s2
        have b0 : 8 ≤ (bk v 0).length := by omega
        have hi := w2_lt (bk v 0) 6
        rw [show w2 (bk v 0) 6 = inosV v from rfl] at hi
        have hpos : 0 < v.length := by omega
        clear hc hr h1 s0 s2
        by_cases hp : planE v.length (inosV v) = 0
        · have HP := Lib.hid hp
          obtain ⟨a1, a2, a3, a4, a5⟩ := planE_ok hp
          clear hp
          go_wp2_with (go_at_call 75; refine (rget_ok _ _ (by simp; omega)).mono ?_; rw [get_two (bk v 0) S0.out, show w2 (bk v 0) 6 = inosV v from rfl]; rintro e w' ⟨rfl, rfl⟩)
          refine (rplan_ok v.length (inosV v) _ (by omega) (by omega) HP.out).mono ?_
          rintro e w1 ⟨rfl, hb1⟩
          have hB1 : Below w.heap.size w w1 := below_keep ((Below.refl _ _).alloc (Nat.le_refl _) _) (Nat.le_refl _) hb1
          have hk1 := blk_keep (blk_new w _) hb1
          have hw1 := blk_lt hk1
          go_wp2_with fail
          have hB2 : Below w.heap.size w (w1.alloc (.cells #[.int .i64 v.length, .int .i64 (inosV v), .int .i64 1, .int .i64 2, .int .i64 3, .int .i64 (3 + ((inosV v : Nat) + 1 : Int) / 2)] 66)) := hB1.alloc hB1.size _
          have hk2 := blk_new w1 (.cells #[.int .i64 v.length, .int .i64 (inosV v), .int .i64 1, .int .i64 2, .int .i64 3, .int .i64 (3 + ((inosV v : Nat) + 1 : Int) / 2)] 66)
          have hk3 := blk_keep hk1 ((Below.refl _ _).alloc (Nat.le_refl _) (.cells #[.int .i64 v.length, .int .i64 (inosV v), .int .i64 1, .int .i64 2, .int .i64 3, .int .i64 (3 + ((inosV v : Nat) + 1 : Int) / 2)] 66))
          generalize w1.alloc (.cells #[.int .i64 v.length, .int .i64 (inosV v), .int .i64 1, .int .i64 2, .int .i64 3, .int .i64 (3 + ((inosV v : Nat) + 1 : Int) / 2)] 66) = W0 at hB2 hk2 hk3 ⊢
          have i0 : (0 : Int) < (v.length : Nat) := by omega
          have i2 : (2 : Int) < (v.length : Nat) := by omega
          have i0' : 0 < v.length := by omega
          obtain ⟨g0, g1, g2, g3, g4, g5⟩ := cells6 hk2
          have HK2 := Lib.hid hk2
          have HK3 := Lib.hid hk3
          have HC0 := Lib.hid hc0
          have HC2 := Lib.hid hc2
          clear hk1 hk2 hk3 hc0 hc2
          rcases no_head HV.out H1.out HP.out with hne | ⟨heq, hmap⟩
          · have hne1 : (bk v 0 == firstB v.length (inosV v)) = false := by rw [beq_eq_false_iff_ne]; exact hne
            have hne2 : (bk v 0 != firstB v.length (inosV v)) = true := by rw [bne_iff_ne]; exact hne
            have d0 := cell_keep HC0.out hB2
            clear hne
            refine region_P (fun w' => w'.cell? ⟨bA, oA, none⟩ = some (.string (mk (bk v 0))) ∧ w'.cell? ⟨w1.heap.size, 0, none⟩ = some (.int .i64 v.length) ∧ w'.cell? ⟨w1.heap.size, 1, none⟩ = some (.int .i64 (inosV v)) ∧ w'.cell? ⟨w1.heap.size, 2, none⟩ = some (.int .i64 1) ∧ w'.cell? ⟨w1.heap.size, 3, none⟩ = some (.int .i64 2) ∧ w'.cell? ⟨w1.heap.size, 4, none⟩ = some (.int .i64 3) ∧ w'.cell? ⟨w1.heap.size, 5, none⟩ = some (.int .i64 (3 + ((inosV v : Nat) + 1 : Int) / 2)) ∧ Below W0.heap.size W0 w') [] (by kernel_rfl) ?_ (fun hHeld => ?_)
            · exact ⟨d0, g0, g1, g2, g3, g4, g5, (Below.refl _ _).drew⟩
            refine wpP_take (i := 0) (oi := ?oi11) (v := ?v11) ?hi11 (by kernel_rfl) (by kernel_rfl) (by kernel_rfl) (by kernel_rfl) ?hQ11 ?hy11 (by assumption) ?rest11
            case hi11 => (simp only [List.getElem?_toArray, List.getElem?_cons_succ, List.getElem?_cons_zero]; exact rfl)
            case hQ11 => exact fun _ _ _ h => h
            case hy11 => (refine Or.inl ⟨by kernel_rfl, ?_⟩; intro w hSw; (try dsimp only at hSw); go_simp; try (with_reducible rfl))
            try simp only [Act.put, List.setIfInBounds_toArray, List.set_cons_zero, List.set_cons_succ]
            refine wpP_take (i := 1) (oi := ?oi12) (v := ?v12) ?hi12 (by kernel_rfl) (by kernel_rfl) (by kernel_rfl) (by kernel_rfl) ?hQ12 ?hy12 (by assumption) ?rest12
            case hi12 => (simp only [List.getElem?_toArray, List.getElem?_cons_succ, List.getElem?_cons_zero]; exact rfl)
            case hQ12 => exact fun _ _ _ h => h
            case hy12 => (refine Or.inl ⟨by kernel_rfl, ?_⟩; intro w hSw; (try dsimp only at hSw); go_simp; try (with_reducible rfl))
            try simp only [Act.put, List.setIfInBounds_toArray, List.set_cons_zero, List.set_cons_succ]
            refine wpP_take (i := 2) (oi := ?oi13) (v := ?v13) ?hi13 (by kernel_rfl) (by kernel_rfl) (by kernel_rfl) (by kernel_rfl) ?hQ13 ?hy13 (by assumption) ?rest13
            case hi13 => (simp only [List.getElem?_toArray, List.getElem?_cons_succ, List.getElem?_cons_zero]; exact rfl)
            case hQ13 => exact fun _ _ _ h => h
            case hy13 => (refine Or.inl ⟨by kernel_rfl, ?_⟩; intro w hSw; (try dsimp only at hSw); go_simp; try (with_reducible rfl))
            try simp only [Act.put, List.setIfInBounds_toArray, List.set_cons_zero, List.set_cons_succ]
            refine wpP_take (i := 3) (oi := ?oi14) (v := ?v14) ?hi14 (by kernel_rfl) (by kernel_rfl) (by kernel_rfl) (by kernel_rfl) ?hQ14 ?hy14 (by assumption) ?rest14
            case hi14 => (simp only [List.getElem?_toArray, List.getElem?_cons_succ, List.getElem?_cons_zero]; exact rfl)
            case hQ14 => exact fun _ _ _ h => h
            case hy14 => (refine Or.inl ⟨by kernel_rfl, ?_⟩; intro w hSw; (try dsimp only at hSw); go_simp; try (with_reducible rfl))
            try simp only [Act.put, List.setIfInBounds_toArray, List.set_cons_zero, List.set_cons_succ]
            refine wpP_take (i := 4) (oi := ?oi15) (v := ?v15) ?hi15 (by kernel_rfl) (by kernel_rfl) (by kernel_rfl) (by kernel_rfl) ?hQ15 ?hy15 (by assumption) ?rest15
            case hi15 => (simp only [List.getElem?_toArray, List.getElem?_cons_succ, List.getElem?_cons_zero]; exact rfl)
            case hQ15 => exact fun _ _ _ h => h
            case hy15 => (refine Or.inl ⟨by kernel_rfl, ?_⟩; intro w hSw; (try dsimp only at hSw); go_simp; try (with_reducible rfl))
            try simp only [Act.put, List.setIfInBounds_toArray, List.set_cons_zero, List.set_cons_succ]
            refine wpP_take (i := 5) (oi := ?oi16) (v := ?v16) ?hi16 (by kernel_rfl) (by kernel_rfl) (by kernel_rfl) (by kernel_rfl) ?hQ16 ?hy16 (by assumption) ?rest16
            case hi16 => (simp only [List.getElem?_toArray, List.getElem?_cons_succ, List.getElem?_cons_zero]; exact rfl)
            case hQ16 => exact fun _ _ _ h => h
            case hy16 => (refine Or.inl ⟨by kernel_rfl, ?_⟩; intro w hSw; (try dsimp only at hSw); go_simp; try (with_reducible rfl))
            try simp only [Act.put, List.setIfInBounds_toArray, List.set_cons_zero, List.set_cons_succ]
            refine wpP_take (i := 6) (oi := ?oi17) (v := ?v17) ?hi17 (by kernel_rfl) (by kernel_rfl) (by kernel_rfl) (by kernel_rfl) ?hQ17 ?hy17 (by assumption) ?rest17
            case hi17 => (simp only [List.getElem?_toArray, List.getElem?_cons_succ, List.getElem?_cons_zero]; exact rfl)
            case hQ17 => exact fun _ _ _ h => h
            case hy17 => (refine Or.inl ⟨by kernel_rfl, ?_⟩; intro w hSw; (try dsimp only at hSw); go_simp; try (with_reducible rfl))
            try simp only [Act.put, List.setIfInBounds_toArray, List.set_cons_zero, List.set_cons_succ]
            refine wpP_ready (rs := [7]) (by kernel_rfl) (by simp) ?_
            refine AllP.cons (o := ?o18) ?ho18 (fun K hK => ?_) AllP.nil
            case ho18 => (simp only [List.getElem?_toArray, List.getElem?_cons_succ, List.getElem?_cons_zero]; exact rfl)
            go_simp
            go_at_call 87
            refine (rhead_ok _ _ _ _ _ _ _ (by omega) (by omega)).mono ?_
            rintro e w3 ⟨rfl, hb3⟩
            have hz : Below W0.heap.size W0 w3 := below_keep (Below.refl _ _).drew (Nat.le_refl _) hb3
            refine hK.out _ _ ?_ (fun hHeld => ?_)
            · exact ⟨cell_keep d0 hz, cell_keep g0 hz, cell_keep g1 hz, cell_keep g2 hz, cell_keep g3 hz, cell_keep g4 hz, cell_keep g5 hz, hz⟩
            clear hK K
            try simp only [Act.put, List.setIfInBounds_toArray, List.set_cons_zero, List.set_cons_succ]
            refine wpP_take (i := 8) (oi := ?oi19) (v := ?v19) ?hi19 (by kernel_rfl) (by kernel_rfl) (by kernel_rfl) (by kernel_rfl) ?hQ19 ?hy19 (by assumption) ?rest19
            case hi19 => (simp only [List.getElem?_toArray, List.getElem?_cons_succ, List.getElem?_cons_zero]; exact rfl)
            case hQ19 => exact fun _ _ _ h => h
            case hy19 => (refine Or.inl ⟨by kernel_rfl, ?_⟩; intro w hSw; (try dsimp only at hSw); go_simp; try (with_reducible rfl))
            try simp only [Act.put, List.setIfInBounds_toArray, List.set_cons_zero, List.set_cons_succ]
            refine wpP_take (i := 9) (oi := ?oi20) (v := ?v20) ?hi20 (by kernel_rfl) (by kernel_rfl) (by kernel_rfl) (by kernel_rfl) ?hQ20 ?hy20 (by assumption) ?rest20
            case hi20 => (simp only [List.getElem?_toArray, List.getElem?_cons_succ, List.getElem?_cons_zero]; exact rfl)
            case hQ20 => exact fun _ _ _ h => h
            case hy20 => (refine Or.inl ⟨by kernel_rfl, ?_⟩; intro w hSw; (try dsimp only at hSw); go_simp; try (with_reducible rfl))
            try simp only [Act.put, List.setIfInBounds_toArray, List.set_cons_zero, List.set_cons_succ]
            refine wpP_done (by kernel_rfl) ?_ _
            have hB3 : Below w.heap.size w w3 := hB2.trans (hz.mono hB2.size)
            have HKR := Lib.hid (blk_keep HK3.out hz)
            clear g0 g1 g2 g3 g4 g5 d0 hb3 hB2 hB1 hb1
            rename_i hheld
            clear hheld
            obtain ⟨r0, r1, r2, r3', r4, r5⟩ := cells6 HKR.out
            have f0 := free_of HKR.out 0
            have f1 := free_of HKR.out 1
            have f2 := free_of HKR.out 2
            have f3 := free_of HKR.out 3
            have f4 := free_of HKR.out 4
            have f5 := free_of HKR.out 5
            go_wp2
            refine bodyPost_ret (v := .tuple #[.agg #[.int .i64 0, .int .i64 0, .int .i64 0, .int .i64 0, .int .i64 0, .int .i64 0], .int .i64 3]) (by simp [results, Try.results46, go_sem, r0, r1, r2, r3', r4, r5]) rfl ⟨rfl, ?_⟩
            exact below_set6 hB3 (Nat.le_refl _)
          · have d0 : W0.cell? ⟨bA, oA, none⟩ = some (.string (mk (firstB v.length (inosV v)))) := by rw [← heq]; exact cell_keep HC0.out hB2
            have K8 := Lib.hid hmap
            clear heq hmap
            refine region_P (fun w' => w'.cell? ⟨bA, oA, none⟩ = some (.string (mk (firstB v.length (inosV v)))) ∧ w'.cell? ⟨w1.heap.size, 0, none⟩ = some (.int .i64 v.length) ∧ w'.cell? ⟨w1.heap.size, 1, none⟩ = some (.int .i64 (inosV v)) ∧ w'.cell? ⟨w1.heap.size, 2, none⟩ = some (.int .i64 1) ∧ w'.cell? ⟨w1.heap.size, 3, none⟩ = some (.int .i64 2) ∧ w'.cell? ⟨w1.heap.size, 4, none⟩ = some (.int .i64 3) ∧ w'.cell? ⟨w1.heap.size, 5, none⟩ = some (.int .i64 (3 + ((inosV v : Nat) + 1 : Int) / 2)) ∧ Below W0.heap.size W0 w') [] (by kernel_rfl) ?_ (fun hHeld => ?_)
            · exact ⟨d0, g0, g1, g2, g3, g4, g5, (Below.refl _ _).drew⟩
            refine wpP_take (i := 0) (oi := ?oi21) (v := ?v21) ?hi21 (by kernel_rfl) (by kernel_rfl) (by kernel_rfl) (by kernel_rfl) ?hQ21 ?hy21 (by assumption) ?rest21
            case hi21 => (simp only [List.getElem?_toArray, List.getElem?_cons_succ, List.getElem?_cons_zero]; exact rfl)
            case hQ21 => exact fun _ _ _ h => h
            case hy21 => (refine Or.inl ⟨by kernel_rfl, ?_⟩; intro w hSw; (try dsimp only at hSw); go_simp; try (with_reducible rfl))
            try simp only [Act.put, List.setIfInBounds_toArray, List.set_cons_zero, List.set_cons_succ]
            refine wpP_take (i := 1) (oi := ?oi22) (v := ?v22) ?hi22 (by kernel_rfl) (by kernel_rfl) (by kernel_rfl) (by kernel_rfl) ?hQ22 ?hy22 (by assumption) ?rest22
            case hi22 => (simp only [List.getElem?_toArray, List.getElem?_cons_succ, List.getElem?_cons_zero]; exact rfl)
            case hQ22 => exact fun _ _ _ h => h
            case hy22 => (refine Or.inl ⟨by kernel_rfl, ?_⟩; intro w hSw; (try dsimp only at hSw); go_simp; try (with_reducible rfl))
            try simp only [Act.put, List.setIfInBounds_toArray, List.set_cons_zero, List.set_cons_succ]
            refine wpP_take (i := 2) (oi := ?oi23) (v := ?v23) ?hi23 (by kernel_rfl) (by kernel_rfl) (by kernel_rfl) (by kernel_rfl) ?hQ23 ?hy23 (by assumption) ?rest23
            case hi23 => (simp only [List.getElem?_toArray, List.getElem?_cons_succ, List.getElem?_cons_zero]; exact rfl)
            case hQ23 => exact fun _ _ _ h => h
            case hy23 => (refine Or.inl ⟨by kernel_rfl, ?_⟩; intro w hSw; (try dsimp only at hSw); go_simp; try (with_reducible rfl))
            try simp only [Act.put, List.setIfInBounds_toArray, List.set_cons_zero, List.set_cons_succ]
            refine wpP_take (i := 3) (oi := ?oi24) (v := ?v24) ?hi24 (by kernel_rfl) (by kernel_rfl) (by kernel_rfl) (by kernel_rfl) ?hQ24 ?hy24 (by assumption) ?rest24
            case hi24 => (simp only [List.getElem?_toArray, List.getElem?_cons_succ, List.getElem?_cons_zero]; exact rfl)
            case hQ24 => exact fun _ _ _ h => h
            case hy24 => (refine Or.inl ⟨by kernel_rfl, ?_⟩; intro w hSw; (try dsimp only at hSw); go_simp; try (with_reducible rfl))
            try simp only [Act.put, List.setIfInBounds_toArray, List.set_cons_zero, List.set_cons_succ]
            refine wpP_take (i := 4) (oi := ?oi25) (v := ?v25) ?hi25 (by kernel_rfl) (by kernel_rfl) (by kernel_rfl) (by kernel_rfl) ?hQ25 ?hy25 (by assumption) ?rest25
            case hi25 => (simp only [List.getElem?_toArray, List.getElem?_cons_succ, List.getElem?_cons_zero]; exact rfl)
            case hQ25 => exact fun _ _ _ h => h
            case hy25 => (refine Or.inl ⟨by kernel_rfl, ?_⟩; intro w hSw; (try dsimp only at hSw); go_simp; try (with_reducible rfl))
            try simp only [Act.put, List.setIfInBounds_toArray, List.set_cons_zero, List.set_cons_succ]
            refine wpP_take (i := 5) (oi := ?oi26) (v := ?v26) ?hi26 (by kernel_rfl) (by kernel_rfl) (by kernel_rfl) (by kernel_rfl) ?hQ26 ?hy26 (by assumption) ?rest26
            case hi26 => (simp only [List.getElem?_toArray, List.getElem?_cons_succ, List.getElem?_cons_zero]; exact rfl)
            case hQ26 => exact fun _ _ _ h => h
            case hy26 => (refine Or.inl ⟨by kernel_rfl, ?_⟩; intro w hSw; (try dsimp only at hSw); go_simp; try (with_reducible rfl))
            try simp only [Act.put, List.setIfInBounds_toArray, List.set_cons_zero, List.set_cons_succ]
            refine wpP_take (i := 6) (oi := ?oi27) (v := ?v27) ?hi27 (by kernel_rfl) (by kernel_rfl) (by kernel_rfl) (by kernel_rfl) ?hQ27 ?hy27 (by assumption) ?rest27
            case hi27 => (simp only [List.getElem?_toArray, List.getElem?_cons_succ, List.getElem?_cons_zero]; exact rfl)
            case hQ27 => exact fun _ _ _ h => h
            case hy27 => (refine Or.inl ⟨by kernel_rfl, ?_⟩; intro w hSw; (try dsimp only at hSw); go_simp; try (with_reducible rfl))
            try simp only [Act.put, List.setIfInBounds_toArray, List.set_cons_zero, List.set_cons_succ]
            refine wpP_ready (rs := [7]) (by kernel_rfl) (by simp) ?_
            refine AllP.cons (o := ?o28) ?ho28 (fun K hK => ?_) AllP.nil
            case ho28 => (simp only [List.getElem?_toArray, List.getElem?_cons_succ, List.getElem?_cons_zero]; exact rfl)
            go_simp
            go_at_call 87
            refine (rhead_ok _ _ _ _ _ _ _ (by omega) (by omega)).mono ?_
            rintro e w3 ⟨rfl, hb3⟩
            have hz : Below W0.heap.size W0 w3 := below_keep (Below.refl _ _).drew (Nat.le_refl _) hb3
            refine hK.out _ _ ?_ (fun hHeld => ?_)
            · exact ⟨cell_keep d0 hz, cell_keep g0 hz, cell_keep g1 hz, cell_keep g2 hz, cell_keep g3 hz, cell_keep g4 hz, cell_keep g5 hz, hz⟩
            clear hK K
            try simp only [Act.put, List.setIfInBounds_toArray, List.set_cons_zero, List.set_cons_succ]
            refine wpP_take (i := 8) (oi := ?oi29) (v := ?v29) ?hi29 (by kernel_rfl) (by kernel_rfl) (by kernel_rfl) (by kernel_rfl) ?hQ29 ?hy29 (by assumption) ?rest29
            case hi29 => (simp only [List.getElem?_toArray, List.getElem?_cons_succ, List.getElem?_cons_zero]; exact rfl)
            case hQ29 => exact fun _ _ _ h => h
            case hy29 => (refine Or.inl ⟨by kernel_rfl, ?_⟩; intro w hSw; (try dsimp only at hSw); go_simp; try (with_reducible rfl))
            try simp only [Act.put, List.setIfInBounds_toArray, List.set_cons_zero, List.set_cons_succ]
            refine wpP_take (i := 9) (oi := ?oi30) (v := ?v30) ?hi30 (by kernel_rfl) (by kernel_rfl) (by kernel_rfl) (by kernel_rfl) ?hQ30 ?hy30 (by assumption) ?rest30
            case hi30 => (simp only [List.getElem?_toArray, List.getElem?_cons_succ, List.getElem?_cons_zero]; exact rfl)
            case hQ30 => exact fun _ _ _ h => h
            case hy30 => (refine Or.inl ⟨by kernel_rfl, ?_⟩; intro w hSw; (try dsimp only at hSw); go_simp; try (with_reducible rfl))
            try simp only [Act.put, List.setIfInBounds_toArray, List.set_cons_zero, List.set_cons_succ]
            refine wpP_done (by kernel_rfl) ?_ _
            have hB3 : Below w.heap.size w w3 := hB2.trans (hz.mono hB2.size)
            have HKR := Lib.hid (blk_keep HK3.out hz)
            obtain ⟨q0, q1, q2, q3, q4, q5⟩ := cells6 (blk_keep HK2.out hz)
            have d2 := cell_keep HC2.out hB3
            clear g0 g1 g2 g3 g4 g5 d0 hb3 hB2 hB1 hb1
            rename_i hheld
            clear hheld
            go_wp2
            go_loop [8] (fun i => ∃ k : Nat, k ≤ 1024 ∧ i = .int .i64 k ∧ Hid (∀ i, i < k → (i < dataV v → bit (bk v 2) i = true) ∧ (v.length ≤ i → bit (bk v 2) i = false))) (fun i => 1024 - (intOf i).toNat)
            case atStart => exact ⟨0, Nat.zero_le _, rfl, fun i hi => by omega⟩
            case round =>
              obtain ⟨q, hq, rfl, hall⟩ := hrel
              by_cases hlt2 : q < 1024
              · by_cases c1 : q < dataV v
                · have c1' : (q : Int) < 3 + ((inosV v : Nat) + 1 : Int) / 2 := by simp only [dataV] at c1; omega
                  have c2' : (q : Int) < (v.length : Nat) := by simp only [dataV] at c1; omega
                  have C1 := Lib.hid c1
                  have c3 : q < v.length := by omega
                  clear c1
                  cases e1 : bit (bk v 2) q with
                  | true =>
                    go_wp2_with (go_at_call 88; refine (rbit_ok _ q _ S2.out hlt2).mono ?_; rintro e w' ⟨rfl, rfl⟩)
                    refine ⟨⟨q + 1, by omega, by go_num, ?_⟩, by simp only [intOf]; omega⟩
                    intro i hi
                    by_cases e : i = q
                    · rw [e]; exact ⟨fun _ => e1, fun h => absurd h (by omega)⟩
                    · exact hall.out i (by omega)
                  | false =>
                    obtain ⟨r0, r1, r2, r3', r4, r5⟩ := cells6 HKR.out
                    have f0 := free_of HKR.out 0
                    have f1 := free_of HKR.out 1
                    have f2 := free_of HKR.out 2
                    have f3 := free_of HKR.out 3
                    have f4 := free_of HKR.out 4
                    have f5 := free_of HKR.out 5
                    go_wp2_with (go_at_call 88; refine (rbit_ok _ q _ S2.out hlt2).mono ?_; rintro e w' ⟨rfl, rfl⟩)
                    refine bodyPost_ret (v := .tuple #[.agg #[.int .i64 0, .int .i64 0, .int .i64 0, .int .i64 0, .int .i64 0, .int .i64 0], .int .i64 3]) (by simp [results, Try.results46, go_sem, r0, r1, r2, r3', r4, r5]) rfl ⟨rfl, ?_⟩
                    exact below_set6 hB3 (Nat.le_refl _)
                · have c1' : 3 + ((inosV v : Nat) + 1 : Int) / 2 ≤ (q : Int) := by simp only [dataV] at c1; omega
                  have C1 := Lib.hid c1
                  clear c1
                  by_cases c2 : v.length ≤ q
                  · cases e1 : bit (bk v 2) q with
                    | false =>
                      go_wp2_with (go_at_call 88; refine (rbit_ok _ q _ S2.out hlt2).mono ?_; rintro e w' ⟨rfl, rfl⟩)
                      refine ⟨⟨q + 1, by omega, by go_num, ?_⟩, by simp only [intOf]; omega⟩
                      intro i hi
                      by_cases e : i = q
                      · rw [e]; exact ⟨fun h => absurd h C1.out, fun _ => e1⟩
                      · exact hall.out i (by omega)
                    | true =>
                      obtain ⟨r0, r1, r2, r3', r4, r5⟩ := cells6 HKR.out
                      have f0 := free_of HKR.out 0
                      have f1 := free_of HKR.out 1
                      have f2 := free_of HKR.out 2
                      have f3 := free_of HKR.out 3
                      have f4 := free_of HKR.out 4
                      have f5 := free_of HKR.out 5
                      go_wp2_with (go_at_call 88; refine (rbit_ok _ q _ S2.out hlt2).mono ?_; rintro e w' ⟨rfl, rfl⟩)
                      refine bodyPost_ret (v := .tuple #[.agg #[.int .i64 0, .int .i64 0, .int .i64 0, .int .i64 0, .int .i64 0, .int .i64 0], .int .i64 3]) (by simp [results, Try.results46, go_sem, r0, r1, r2, r3', r4, r5]) rfl ⟨rfl, ?_⟩
                      exact below_set6 hB3 (Nat.le_refl _)
                  · go_wp2
                    refine ⟨⟨q + 1, by omega, by go_num, ?_⟩, by simp only [intOf]; omega⟩
                    intro i hi
                    by_cases e : i = q
                    · rw [e]; exact ⟨fun h => absurd h C1.out, fun h => absurd h c2⟩
                    · exact hall.out i (by omega)
              · obtain rfl : q = 1024 := by omega
                have h1 := K8.out
                rw [okmap_iff.2 hall.out] at h1
                cases h1
        · have hbig : v.length ≤ 8796093022208 := hl
          have HP := Lib.hid hp
          go_wp2_with (go_at_call 75; refine (rget_ok _ _ (by simp; omega)).mono ?_; rw [get_two (bk v 0) S0.out, show w2 (bk v 0) 6 = inosV v from rfl]; rintro e w' ⟨rfl, rfl⟩)
          refine (rplan_no v.length (inosV v) _ (by omega) (by omega) HP.out).mono ?_
          have he : planE v.length (inosV v) = 2 ∨ planE v.length (inosV v) = 10 := by
            rcases planE_no hp with h | h
            · exact .inl h.2
            · exact .inr h.2.2.2.2.2
          clear hp
          have HE := Lib.hid he
          clear he
          rcases HE.out with he | he
          all_goals
            rw [he]
            clear he
            rintro e w1 ⟨rfl, hb1⟩
            have hB1 : Below w.heap.size w w1 := below_keep ((Below.refl _ _).alloc (Nat.le_refl _) _) (Nat.le_refl _) hb1
            have hk1 := blk_keep (blk_new w _) hb1
            have hw1 := blk_lt hk1
            have HK1 := Lib.hid hk1
            clear hk1
            go_wp2_with fail
            have hB2 : Below w.heap.size w (w1.alloc (.cells #[.int .i64 0, .int .i64 0, .int .i64 0, .int .i64 0, .int .i64 0, .int .i64 0] 66)) := hB1.alloc hB1.size _
            have hk3 := blk_keep HK1.out ((Below.refl _ _).alloc (Nat.le_refl _) (.cells #[.int .i64 0, .int .i64 0, .int .i64 0, .int .i64 0, .int .i64 0, .int .i64 0] 66))
            generalize w1.alloc (.cells #[.int .i64 0, .int .i64 0, .int .i64 0, .int .i64 0, .int .i64 0, .int .i64 0] 66) = W0 at hB2 hk3 ⊢
            have HK3 := Lib.hid hk3
            clear hk3
            go_quiet (fail)
            rename_i nq
            have hz : Below W0.heap.size W0 (W0.drewN nq) := below_drewN' _ _
            have HKR := Lib.hid (blk_keep HK3.out hz)
            have hB3 : Below w.heap.size w (W0.drewN nq) := hB2.trans (hz.mono hB2.size)
            obtain ⟨r0, r1, r2, r3', r4, r5⟩ := cells6 HKR.out
            have f0 := free_of HKR.out 0
            have f1 := free_of HKR.out 1
            have f2 := free_of HKR.out 2
            have f3 := free_of HKR.out 3
            have f4 := free_of HKR.out 4
            have f5 := free_of HKR.out 5
            go_wp2
            refine bodyPost_ret (v := .tuple #[.agg #[.int .i64 0, .int .i64 0, .int .i64 0, .int .i64 0, .int .i64 0, .int .i64 0], .int .i64 3]) (by simp [results, Try.results46, go_sem, r0, r1, r2, r3', r4, r5]) rfl ⟨rfl, ?_⟩
            exact below_set6 hB3 (Nat.le_refl _)
end Go.Proofs.Ytacdohlhalnioaa
end

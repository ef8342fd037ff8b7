/- Joined: XYH XYJ XYK XYL. -/
import Derived.Test.YtacdohlhalnioaaKC
import Derived.Test.YtacdohlhalnioaaShelf
import Derived.Test.YtacdohlhalnioaaJ2
/- Contracts: how many blocks are free; whether one is taken. -/
section
set_option linter.unusedVariables false
set_option linter.unusedSimpArgs false
set_option maxRecDepth 20000
namespace Go.Proofs.Ytacdohlhalnioaa
open Go.RowKit
attribute [local go_sem] Oper.semAt_some

theorem ones_byte : ∀ n, n < 256 → Lib.onesCount n = (List.range 8).countP fun q => n / 2 ^ q % 2 == 1 := by
  decide +kernel
/-- How many bits stand in the first k bytes. -/
def onesTo (m : Blk) (k : Nat) : Nat := ((List.range k).map fun i => Lib.onesCount (gb m i)).sum
theorem onesTo_succ (m : Blk) (k : Nat) : onesTo m (k + 1) = onesTo m k + Lib.onesCount (gb m k) := by simp [onesTo, List.range_succ]
theorem ones_le (n : Nat) (h : n < 256) : Lib.onesCount n ≤ 8 := by
  rw [ones_byte n h]
  exact Nat.le_trans List.countP_le_length (by simp)
theorem onesTo_bits (m : Blk) (k : Nat) : onesTo m k = (List.range (8 * k)).countP (bit m) := by
  induction k with
  | zero => rfl
  | succ k ih =>
    rw [onesTo_succ, ih, show 8 * (k + 1) = 8 * k + 8 from by omega, List.range_add, List.countP_append, List.countP_map, ones_byte _ (gb_lt _ _)]
    congr 1
    rw [List.countP_eq_length_filter, List.countP_eq_length_filter]
    congr 1
    refine List.filter_congr (fun q hq => ?_)
    have := List.mem_range.1 hq
    simp only [Function.comp, bit]
    rw [show (8 * k + q) / 8 = k from by omega, show (8 * k + q) % 8 = q from by omega]
theorem free_ones {v : Vol} (hv : okV v = true) : freeN v + onesTo (bk v 2) 128 = v.length := by
  have H := okV_iff.1 hv
  have hhi := H.hi
  have hm := okmap_iff.1 H.map
  rw [onesTo_bits, show 8 * 128 = v.length + (1024 - v.length) from by omega, List.range_add, List.countP_append]
  have e1 : ((List.range (1024 - v.length)).map (v.length + ·)).countP (bit (bk v 2)) = 0 := by
    rw [List.countP_eq_zero]
    intro j hj
    obtain ⟨q, hq, rfl⟩ := List.mem_map.1 hj
    have := List.mem_range.1 hq
    rw [(hm (v.length + q) (by omega)).2 (by omega)]
    simp
  have e2 : freeN v = (List.range v.length).countP fun j => !bit (bk v 2) j := by
    rw [freeN, List.countP_eq_length_filter, List.countP_eq_length_filter]
    congr 1
    refine List.filter_congr (fun j hj => ?_)
    have := List.mem_range.1 hj
    by_cases h : dataV v ≤ j
    · simp [h]
    · rw [(hm j (by omega)).1 (by omega)]
      simp
  have e3 := List.length_eq_countP_add_countP (bit (bk v 2)) (l := List.range v.length)
  rw [List.length_range] at e3
  rw [e1, e2]
  have e4 : (List.range v.length).countP (fun j => !bit (bk v 2) j) = (List.range v.length).countP (fun a => decide ¬bit (bk v 2) a = true) := by
    congr 1
    funext j
    cases bit (bk v 2) j <;> rfl
  rw [e4]
  omega
set_option maxHeartbeats 2000000 in
theorem room_ok (A : Option Addr) (c : Nat) (v : Vol) (w : World) (hr : RS w A v) (hv : okV v = true) :
    Calls Try.prog 47 #[.slice A v.length c] w fun e w' => e = .returned (.int .i64 (freeN v)) ∧ Below w.heap.size w w' := by
  have H := okV_iff.1 hv
  have hlo := H.lo
  have hhi := H.hi
  have h128 := H.size 2 (by omega)
  have hfr := free_ones hv
  have HR := Lib.hid hr
  have hof := Lib.hid (fun w hr => of_ok A c v w hr hv)
  obtain ⟨bA, oA, hAe, hbA, hcc⟩ := hr.open_ (by omega)
  have HC := Lib.hid (hcc 2 (by omega))
  subst hAe
  have hk8 : ∀ k, k ≤ 128 → onesTo (bk v 2) k ≤ 8 * k := fun k _ => by
    rw [onesTo_bits]
    exact Nat.le_trans List.countP_le_length (by simp)
  obtain ⟨m, hm⟩ : ∃ m, bk v 2 = m := ⟨_, rfl⟩
  rw [hm] at h128 hfr hk8 HC
  obtain ⟨F, hF⟩ : ∃ F, freeN v = F := ⟨_, rfl⟩
  rw [hF] at hfr ⊢
  have HFR := Lib.hid hfr
  have HK := Lib.hid hk8
  have i2 : (2 : Int) < (v.length : Nat) := by omega
  clear hr hv H hcc hm hF hfr hk8
  go_enter Try.func47, Try.ntmps47
  go_upto_region 5 with (go_at_call 71; refine (hof.out _ HR.out).mono ?_; rintro e w1 ⟨rfl, hb1⟩; have HB1 := Lib.hid (hb1.alloc hb1.size (.cells #[.int .i64 v.length, .int .i64 (inosV v), .int .i64 1, .int .i64 2, .int .i64 3, .int .i64 (3 + ((inosV v : Nat) + 1 : Int) / 2)] 66)); have HG1 := Lib.hid (blk_new w1 (.cells #[.int .i64 v.length, .int .i64 (inosV v), .int .i64 1, .int .i64 2, .int .i64 3, .int .i64 (3 + ((inosV v : Nat) + 1 : Int) / 2)] 66)); clear hb1)
  obtain ⟨W1, hW1⟩ : ∃ W1, w1.alloc (.cells #[.int .i64 v.length, .int .i64 (inosV v), .int .i64 1, .int .i64 2, .int .i64 3, .int .i64 (3 + ((inosV v : Nat) + 1 : Int) / 2)] 66) = W1 := ⟨_, rfl⟩
  obtain ⟨q, hq⟩ : ∃ q, w1.heap.size = q := ⟨_, rfl⟩
  rw [hW1, hq] at HG1
  rw [hW1] at HB1 ⊢
  rw [hq]
  obtain ⟨g0, g1, g2, g3, g4, g5⟩ := cells6 HG1.out
  have cm := cell_keep HC.out HB1.out
  clear hW1 hq
  go_wp2
  go_loopw [5, 22] (fun nv iv wr => ∃ k : Nat, k ≤ 128 ∧ nv = .int .i64 ((v.length : Int) - (onesTo m k : Int)) ∧ iv = .int .i64 k ∧ wr = W1) (fun _ iv _ => 128 - (intOf iv).toNat)
  case atStart => exact ⟨0, by omega, by simp [onesTo], rfl, rfl⟩
  case round =>
    obtain ⟨k, hk, rfl, rfl, rfl⟩ := hrel
    have hkk := HK.out k hk
    by_cases hlt : k < 128
    · have hki : (k : Int) < 128 := by omega
      have hgl := gb_lt m k
      have hol := ones_le (gb m k) hgl
      have hsu := onesTo_succ m k
      have hbc := Lib.hid (fun w => Try.bits_OnesCount8 ((gb m k : Nat) : Int) w (by omega) (by omega))
      have hkm : (k : Int) < (m.length : Int) := by omega
      have hto : ((gb m k : Nat) : Int).toNat = gb m k := Int.toNat_natCast _
      obtain ⟨z, hz⟩ : ∃ z, Lib.onesCount (gb m k) = z := ⟨_, rfl⟩
      have HTO := Lib.hid hto
      rw [hz] at hsu hol
      have HZ := Lib.hid hz
      have HSU := Lib.hid hsu
      generalize onesTo m k = S at *
      have hws : IntKind.i64.wrap ((v.length : Int) - (S : Int) - (z : Int)) = (v.length : Int) - (S : Int) - (z : Int) := by simp [IntKind.wrap, IntKind.bits, IntKind.signed]; omega
      clear hz hsu hto
      go_wp2_with (go_at_call 89; refine (hbc.out _).mono ?_; rw [HTO.out, HZ.out]; rintro e w2 ⟨rfl, rfl⟩)
      exact ⟨⟨k + 1, by omega, by rw [HSU.out]; go_num, by go_num, trivial⟩, by simp only [intOf]; omega⟩
    · obtain rfl : k = 128 := by omega
      go_wp2
      go_ret
      refine ⟨?_, HB1.out⟩
      have := HFR.out
      rw [show (v.length : Int) - (onesTo m 128 : Int) = (F : Int) from by omega]
      rfl
set_option maxHeartbeats 2000000 in
theorem used1_ok (A : Option Addr) (c : Nat) (v : Vol) (i : Nat) (w : World) (hr : RS w A v) (hv : okV v = true) (hi : i < v.length) :
    Calls Try.prog 49 #[.slice A v.length c, .int .i64 i] w fun e w' => e = .returned (.bool (bit (bk v 2) i)) ∧ Below w.heap.size w w' := by
  have H := okV_iff.1 hv
  have hlo := H.lo
  have hhi := H.hi
  have h128 := H.size 2 (by omega)
  have HR := Lib.hid hr
  have hof := Lib.hid (fun w hr => of_ok A c v w hr hv)
  obtain ⟨bA, oA, hAe, hbA, hcc⟩ := hr.open_ (by omega)
  have HC := Lib.hid (hcc 2 (by omega))
  subst hAe
  have hhas := Lib.hid (fun w => has_ok (bk v 2) i w h128 (by omega))
  obtain ⟨m, hm⟩ : ∃ m, bk v 2 = m := ⟨_, rfl⟩
  rw [hm] at hhas HC ⊢
  have i2 : (2 : Int) < (v.length : Nat) := by omega
  have i0 : (0 : Int) ≤ (i : Int) := by omega
  have i1 : (i : Int) < (v.length : Int) := by omega
  clear hr hv H hcc hm
  go_enter Try.func49, Try.ntmps49
  go_upto_region 2 with (go_at_call 71; refine (hof.out _ HR.out).mono ?_; rintro e w1 ⟨rfl, hb1⟩; have HB1 := Lib.hid (hb1.alloc hb1.size (.cells #[.int .i64 v.length, .int .i64 (inosV v), .int .i64 1, .int .i64 2, .int .i64 3, .int .i64 (3 + ((inosV v : Nat) + 1 : Int) / 2)] 66)); have HG1 := Lib.hid (blk_new w1 (.cells #[.int .i64 v.length, .int .i64 (inosV v), .int .i64 1, .int .i64 2, .int .i64 3, .int .i64 (3 + ((inosV v : Nat) + 1 : Int) / 2)] 66)); clear hb1)
  obtain ⟨W1, hW1⟩ : ∃ W1, w1.alloc (.cells #[.int .i64 v.length, .int .i64 (inosV v), .int .i64 1, .int .i64 2, .int .i64 3, .int .i64 (3 + ((inosV v : Nat) + 1 : Int) / 2)] 66) = W1 := ⟨_, rfl⟩
  obtain ⟨q, hq⟩ : ∃ q, w1.heap.size = q := ⟨_, rfl⟩
  rw [hW1, hq] at HG1
  rw [hW1] at HB1 ⊢
  rw [hq]
  obtain ⟨g0, g1, g2, g3, g4, g5⟩ := cells6 HG1.out
  have cm := cell_keep HC.out HB1.out
  clear hW1 hq
  go_wp2_with (go_at_call 94; refine (hhas.out _).mono ?_; rintro e w2 ⟨rfl, rfl⟩)
  go_ret
  exact ⟨rfl, HB1.out⟩
end Go.Proofs.Ytacdohlhalnioaa
end

/- The pure law of files: what a write takes. -/
section
set_option linter.unusedVariables false
set_option linter.unusedSimpArgs false
set_option maxRecDepth 20000
namespace Go.Proofs.Ytacdohlhalnioaa
open Go.RowKit

/-- How many of an inode's 70 blocks are. -/
def cnt70 (v : Vol) (x : Ino) : Nat := (List.range 70).countP fun k => refV v x k != 0
theorem cntR_70 (v : Vol) (x : Ino) : cntR v x = cnt70 v x + one (refV v x 70 != 0) + one (refV v x 71 != 0) := by
  rw [cntR, show List.range 72 = List.range 70 ++ [70, 71] from by decide, List.countP_append, cnt70, List.countP_cons, List.countP_cons, List.countP_nil]
  simp only [one]
  omega
theorem ref_ext (v : Vol) (x : Ino) : refV v x 71 = gz (dataV v) v.length x.ext := by rw [refV, if_neg (by omega), if_neg (by omega)]
theorem gz_one (d L b : Nat) (hd : 0 < d) : one (gz d L b != 0) = one (goodN d L b) := by
  unfold gz
  by_cases h : goodN d L b = true
  · have := (goodN_iff.1 h).1
    rw [if_pos h, h, show (b != 0) = true from by simp; omega]
  · rw [if_neg h]
    have : goodN d L b = false := by simpa using h
    rw [this]
    rfl
theorem countV_cntR (v : Vol) (n : Nat) : countV v n = cntR v (inoV v n) := by
  have hd := dataV_pos v
  rw [cntR_70, countV, ref_ext, gz_one _ _ _ (by omega)]
  have e1 : refV v (inoV v n) 70 = gz (dataV v) v.length (inoV v n).ind := by rw [refV, if_neg (by omega), if_pos rfl]
  rw [e1, gz_one _ _ _ (by omega)]
  congr 2
  rw [cntTo, cnt70, List.countP_eq_length_filter]
  congr 1
theorem LV.ext0 {v : Vol} (h : LV v) {n : Nat} (hn : S3 n) : refV v (inoV v n) 71 = 0 := by
  rw [ref_ext, (h.fl n hn).ext, gz, ite_self]
theorem LV.tail0 {v : Vol} (h : LV v) {n k : Nat} (hn : S3 n) (hk : k < 70) (hs : needS (sizeX (inoV v n)) ≤ k) : refV v (inoV v n) k = 0 := by
  have hs2 : sizeX (inoV v n) = (inoV v n).size := Nat.min_eq_left (h.fl n hn).size
  have e : needS (sizeX (inoV v n)) = (sizeX (inoV v n) + 127) / 128 := rfl
  rcases Nat.eq_zero_or_pos (refV v (inoV v n) k) with h0 | h0
  · exact h0
  · have := (h.fl n hn).tail k hk (by omega)
    omega
theorem need_le (x : Ino) : needS (sizeX x) ≤ 70 := by
  have h : sizeX x ≤ 8960 := Nat.min_le_right _ _
  rw [needS]
  omega
theorem hole_pos (b : Nat) : 0 ≤ holeI b ↔ b ≠ 0 := by
  rw [holeI]
  split
  · rename_i h; simp [h]
  · rename_i h; simp [h]
/-- The k-th entry of a file's blocks. -/
theorem blocks_get (v : Vol) (n k : Nat) (hk : k < needS (sizeX (inoV v n))) : (blocksV v n)[k]? = some (holeI (refV v (inoV v n) k)) := by
  have := need_le (inoV v n)
  rw [blocksV, List.getElem?_map, List.getElem?_range hk, Option.map_some, refV_at _ _ (by omega)]
theorem blocks_len (v : Vol) (n : Nat) : (blocksV v n).length = needS (sizeX (inoV v n)) := by simp [blocksV]
/-- Is the k-th block one that a write falls into? -/
def tch (o : Nat) (t : Blk) (k : Nat) : Bool := decide (0 < t.length ∧ o / 128 ≤ k ∧ k ≤ (o + t.length - 1) / 128)
def frB (V : Vol) (o : Nat) (t : Blk) (i : Nat) : Bool := tch o t i && (refV V (inoV V 2) i == 0)
/-- How many blocks are fresh, among the first k, and whether one is beyond the sixth. -/
def frT (V : Vol) (o : Nat) (t : Blk) (k : Nat) : Nat := (List.range k).countP (frB V o t)
def byT (V : Vol) (o : Nat) (t : Blk) (k : Nat) : Bool := (List.range k).any fun i => frB V o t i && decide (6 ≤ i)
theorem frT_succ (V : Vol) (o : Nat) (t : Blk) (k : Nat) : frT V o t (k + 1) = frT V o t k + (if frB V o t k = true then 1 else 0) := by
  rw [frT, List.range_succ, List.countP_append, List.countP_singleton]
  rfl
theorem byT_succ (V : Vol) (o : Nat) (t : Blk) (k : Nat) : byT V o t (k + 1) = (byT V o t k || (frB V o t k && decide (6 ≤ k))) := by
  rw [byT, List.range_succ, List.any_append]
  simp [byT]
/-- How many of the first k entries are blocks. -/
def posT (l : List Int) (k : Nat) : Nat := (List.range k).countP fun i => decide (0 ≤ l.getD i (-1))
theorem posT_succ (l : List Int) (k : Nat) : posT l (k + 1) = posT l k + (if 0 ≤ l.getD k (-1) then 1 else 0) := by
  rw [posT, List.range_succ, List.countP_append, List.countP_singleton]
  simp [posT]
theorem posT_le (l : List Int) (k : Nat) : posT l k ≤ k := Nat.le_trans List.countP_le_length (by simp)
theorem countP_ext {p q : Nat → Bool} {n : Nat} (h : ∀ i, i < n → p i = q i) : (List.range n).countP p = (List.range n).countP q := by
  rw [List.countP_eq_length_filter, List.countP_eq_length_filter]
  congr 1
  exact List.filter_congr (fun i hi => h i (List.mem_range.1 hi))
theorem countP_more_range {p : Nat → Bool} {m n : Nat} (hmn : m ≤ n) (h : ∀ i, m ≤ i → i < n → p i = false) : (List.range n).countP p = (List.range m).countP p := by
  obtain ⟨d, rfl⟩ : ∃ d, n = m + d := ⟨n - m, by omega⟩
  rw [List.range_add, List.countP_append]
  have : ((List.range d).map (m + ·)).countP p = 0 := by
    rw [List.countP_eq_zero]
    intro i hi
    obtain ⟨j, hj, rfl⟩ := List.mem_map.1 hi
    have := List.mem_range.1 hj
    rw [h (m + j) (by omega) (by omega)]
    simp
  omega
theorem countP_split (p q : Nat → Bool) (n : Nat) : (List.range n).countP (fun i => p i || q i) = (List.range n).countP p + (List.range n).countP (fun i => q i && !p i) := by
  induction n with
  | zero => rfl
  | succ n ih =>
    rw [List.range_succ, List.countP_append, List.countP_append, List.countP_append, ih, List.countP_singleton, List.countP_singleton, List.countP_singleton]
    cases p n <;> cases q n <;> simp <;> omega
/-- What is first told: whether the block of the numbers is. -/
theorem first_pure {V : Vol} (h : LV V) : countV V 2 = posT (blocksV V 2) (needS (sizeX (inoV V 2))) + one (refV V (inoV V 2) 70 != 0) := by
  have hn : S3 2 := ⟨by omega, by omega⟩
  have hm := need_le (inoV V 2)
  rw [countV_cntR, cntR_70, h.ext0 hn]
  have e1 : cnt70 V (inoV V 2) = posT (blocksV V 2) (needS (sizeX (inoV V 2))) := by
    rw [cnt70, countP_more_range hm (fun i h1 h2 => by rw [h.tail0 hn h2 h1]; rfl), posT]
    refine countP_ext (fun i hi => ?_)
    rw [List.getD_eq_getElem?_getD, blocks_get _ _ _ hi, Option.getD_some]
    by_cases h0 : refV V (inoV V 2) i = 0
    · rw [h0]; rfl
    · rw [decide_eq_true ((hole_pos _).2 h0)]
      simpa using h0
  rw [e1]
  rfl
theorem needs_pure {V W : Vol} {o : Nat} {t : Blk} (h : LV V) (hw : writeR V 2 o t = (0, W)) :
    LV W ∧ (∀ k, k < needS (sizeX (inoV W 2)) → (refV W (inoV W 2) k ≠ 0 ↔ (tch o t k = true ∨ refV V (inoV V 2) k ≠ 0))) ∧
      (freeN V : Int) - (freeN W : Int) = (frT V o t (needS (sizeX (inoV W 2))) : Int) + (if refV V (inoV V 2) 70 = 0 ∧ byT V o t (needS (sizeX (inoV W 2))) = true then 1 else 0) := by
  have hn : S3 2 := ⟨by omega, by omega⟩
  have hL := h.writeR (n := 2) hn hw
  refine ⟨hL, ?_⟩
  have hmW := need_le (inoV W 2)
  obtain ⟨a, hao, ha, (⟨rfl, rfl⟩ | ⟨ht, v', x', h1, rfl⟩)⟩ := writeR_ok (n := 2) hw
  · have hf : ∀ k, tch o [] k = false := fun k => decide_eq_false (fun h => by simp at h)
    have hfb : ∀ k, frB W o [] k = false := fun k => by rw [frB, hf]; rfl
    refine ⟨fun k _ => by rw [hf]; simp, ?_⟩
    have e1 : frT W o [] (needS (sizeX (inoV W 2))) = 0 := by
      rw [frT, List.countP_eq_zero]
      intro i _
      rw [hfb]
      simp
    have e2 : byT W o [] (needS (sizeX (inoV W 2))) = false := by
      rw [byT, List.any_eq_false]
      intro i _
      rw [hfb]
      simp
    rw [e1, e2, if_neg (by simp)]
    omega
  · obtain rfl : o = a := by omega
    have hW := write_vol h.sv hn ha h1
    generalize putV v' 2 (if min x'.size 8960 < o + t.length then x'.setS (o + t.length) else x') = W at *
    obtain ⟨y, hC⟩ := hW.chg
    have htl := List.length_pos_iff.2 ht
    have hs := (h.fl 2 hn).size
    have hsW : (inoV W 2).size = if (inoV V 2).size < o + t.length then o + t.length else (inoV V 2).size := by rw [hW.size, Nat.min_eq_left hs]
    have hsz : sizeX (inoV W 2) = (inoV W 2).size := Nat.min_eq_left (hL.fl 2 hn).size
    have hne : needS (sizeX (inoV W 2)) = (sizeX (inoV W 2) + 127) / 128 := rfl
    have hiff : ∀ k, tch o t k = true ↔ (t ≠ [] ∧ o / 128 ≤ k ∧ k ≤ (o + t.length - 1) / 128) := fun k => by
      rw [tch, decide_eq_true_eq]
      simp [ht, htl]
    have refs : ∀ k, k < 70 → (refV W (inoV W 2) k ≠ 0 ↔ (tch o t k = true ∨ refV V (inoV V 2) k ≠ 0)) := fun k hk => by
      rw [hW.refs k hk, hiff]
      exact Or.comm
    refine ⟨fun k hk => refs k (by omega), ?_⟩
    have hmap := hC.map
    rw [← hC.here, cntR_70, cntR_70, h.ext0 hn, hL.ext0 hn] at hmap
    have htm : ∀ k, tch o t k = true → k < needS (sizeX (inoV W 2)) := fun k hk => by
      obtain ⟨_, _, h3⟩ := (hiff k).1 hk
      rw [hne, hsz, hsW]
      split <;> omega
    have e1 : cnt70 W (inoV W 2) = cnt70 V (inoV V 2) + frT V o t (needS (sizeX (inoV W 2))) := by
      have a1 : cnt70 W (inoV W 2) = (List.range 70).countP fun i => (refV V (inoV V 2) i != 0) || tch o t i := by
        refine countP_ext (fun i hi => ?_)
        have := refs i hi
        by_cases c : refV W (inoV W 2) i = 0
        · have c2 : ¬ (tch o t i = true ∨ refV V (inoV V 2) i ≠ 0) := fun h => this.2 h c
          rw [not_or] at c2
          have c3 : refV V (inoV V 2) i = 0 := Classical.not_not.1 c2.2
          rw [c, c3, show tch o t i = false from by simpa using c2.1]
          rfl
        · rcases this.1 c with h2 | h2
          · rw [h2, Bool.or_true]; simpa using c
          · rw [show (refV V (inoV V 2) i != 0) = true from by simpa using h2]
            simpa using c
      rw [a1, countP_split, frT, ← countP_more_range hmW (p := frB V o t) (fun i h1 h2 => ?_)]
      · rw [cnt70]
        congr 1
        refine countP_ext (fun i _ => ?_)
        rw [frB]
        congr 1
        cases hc : (refV V (inoV V 2) i != 0) <;> simp_all
      · cases hc : tch o t i
        · rw [frB, hc]; rfl
        · have := htm i hc
          omega
    have e2 : one (refV W (inoV W 2) 70 != 0) = one (refV V (inoV V 2) 70 != 0) + (if refV V (inoV V 2) 70 = 0 ∧ byT V o t (needS (sizeX (inoV W 2))) = true then 1 else 0) := by
      by_cases c : refV V (inoV V 2) 70 = 0
      · have hby : byT V o t (needS (sizeX (inoV W 2))) = true ↔ 6 ≤ (o + t.length - 1) / 128 := by
          rw [byT, List.any_eq_true]
          constructor
          · rintro ⟨i, _, hi⟩
            rw [Bool.and_eq_true, frB, Bool.and_eq_true, decide_eq_true_eq] at hi
            have := ((hiff i).1 hi.1.1).2.2
            omega
          · intro h6
            have ht2 : tch o t ((o + t.length - 1) / 128) = true := (hiff _).2 ⟨ht, by omega, Nat.le_refl _⟩
            refine ⟨(o + t.length - 1) / 128, List.mem_range.2 (htm _ ht2), ?_⟩
            have hg : goodN (dataV V) V.length (inoV V 2).ind = false := by
              cases hc : goodN (dataV V) V.length (inoV V 2).ind
              · rfl
              · rw [refV_ind _ _ hc] at c
                rw [c, goodN_zero] at hc
                cases hc
            rw [frB, ht2, refV_far0 V (inoV V 2) h6 (by omega) hg, decide_eq_true h6]
            rfl
        by_cases h6 : 6 ≤ (o + t.length - 1) / 128
        · have hw7 := hW.ind.2 (.inr ⟨ht, h6⟩)
          rw [if_pos ⟨c, hby.2 h6⟩, c, show (refV W (inoV W 2) 70 != 0) = true from by simpa using hw7]
          rfl
        · have hw7 : refV W (inoV W 2) 70 = 0 := by
            rcases Nat.eq_zero_or_pos (refV W (inoV W 2) 70) with h0 | h0
            · exact h0
            · rcases hW.ind.1 (by omega) with h2 | h2
              · exact absurd c h2
              · exact absurd h2.2 h6
          rw [if_neg (fun h => h6 (hby.1 h.2)), c, hw7]
          rfl
      · have hw7 := hW.ind.2 (.inl c)
        rw [if_neg (fun h => c h.1), show (refV W (inoV W 2) 70 != 0) = true from by simpa using hw7, show (refV V (inoV V 2) 70 != 0) = true from by simpa using c]
        rfl
    rw [e1, e2] at hmap
    split at hmap <;> rename_i hcc
    · rw [if_pos hcc]; omega
    · rw [if_neg hcc]; omega
end Go.Proofs.Ytacdohlhalnioaa
end

/- The law ExtentNeeds, walked. -/
section
set_option linter.unusedVariables false
set_option linter.unusedSimpArgs false
set_option maxRecDepth 20000
namespace Go.Proofs.Ytacdohlhalnioaa
open Go.RowKit
attribute [local go_sem] Oper.semAt_some

theorem blocks_at {v : Vol} (h : LV v) {n : Nat} (hn : S3 n) {H : List Int} (hH : blocksV v n = H) {L : Nat} (hL : v.length = L) (A : Option Addr) (c : Nat) (w : World) (hr : RS w A v) :
    Calls Try.prog 18 #[.slice A L c, .int .i64 n] w fun e w' => ∃ u, e = .returned u ∧ w'.ownsRow w.heap.size 3 1 u H.length (ints H) ∧ Below w.heap.size w w' := by
  subst hH hL
  exact blocks_ok A c v n w hr h.sv.ok (h.sv.rng n hn).1 (h.sv.rng n hn).2 (inoV_size _ _)
theorem ints_get (l : List Int) (k : Nat) (hk : k < l.length) : (ints l)[k]? = some (.int .i64 (l.getD k (-1))) := by
  rw [ints, List.getElem?_map, List.getElem?_eq_getElem hk, List.getD_eq_getElem?_getD, List.getElem?_eq_getElem hk]
  rfl
set_option maxHeartbeats 16000000 in
theorem needs_ok (Al : Option Addr) (cl : Nat) (l : List Deed) (p : Nat) (t : Blk) (w : World) (hl : RA w Al l) (hd : ∀ a ∈ l, okD a) (hp : p < 65536) (htl : (t.length : Int) ≤ 140737488351232) :
    Calls Try.prog 12 #[.slice Al l.length cl, .int .u16 p, .string (mk t)] w fun e w' => e = .returned (.bool true) ∧ Below w.heap.size w w' := by
  have HL := Lib.hid hl
  have hdg := Lib.hid (fun w hr => dgreat_ok Al cl l w hr)
  have hla := Lib.hid (fun w hr => laid_ok Al cl l w hr hd)
  have hLV := Lib.hid (lv_laid l)
  clear hl hd
  obtain ⟨o, ho, ho9⟩ : ∃ o : Nat, (p : Int).tmod 9000 = (o : Int) ∧ o < 9000 := by
    rw [Int.tmod_eq_emod_of_nonneg (by omega)]
    exact ⟨p % 9000, by omega, by omega⟩
  have hw0 : IntKind.i64.wrap (p : Int) = (p : Int) := by simp [IntKind.wrap, IntKind.bits, IntKind.signed]; omega
  have hwo : IntKind.i64.wrap (o : Int) = (o : Int) := by simp [IntKind.wrap, IntKind.bits, IntKind.signed]; omega
  by_cases ht1 : t.length ≤ 1000
  case neg =>
    have hti : (1000 : Int) < (t.length : Int) := by omega
    go_enter Try.func12, Try.ntmps12
    go_wp2_with (first
      | (go_at_call 36; refine (hdg.out _ HL.out).mono ?_; rintro e w2 ⟨⟨bq, rfl⟩, hb2⟩; have HB2 := Lib.hid hb2; clear hb2; cases bq)
      | (go_at_call 17; refine (fixed_ok _).mono ?_; rintro e w8 ⟨rfl, hb8⟩; have HB8 := Lib.hid hb8; clear hb8))
    all_goals
      go_ret
      exact ⟨rfl, below_keep HB2.out (Nat.le_refl _) HB8.out⟩
  have hti : ¬ (1000 : Int) < (t.length : Int) := by omega
  go_enter Try.func12, Try.ntmps12
  go_upto_region 7 with (first
    | (go_at_call 36; refine (hdg.out _ HL.out).mono ?_; rintro e w2 ⟨⟨bq, rfl⟩, hb2⟩; have HB2 := Lib.hid hb2; clear hb2; cases bq)
    | (go_at_call 17; refine (fixed_ok _).mono ?_; rintro e w8 ⟨rfl, hb8⟩; have HB8 := Lib.hid hb8; clear hb8)
    | (go_at_call 41; refine (hla.out _ (HL.out.keep HB2.out)).mono ?_; rintro e w3 ⟨A3, c3, u3, rfl, hr3, ho5, hb3⟩; obtain ⟨gn, cn, rfl, hgn, hcn⟩ := own_open ho5 (by omega); have HR3 := Lib.hid hr3; have HB3 := Lib.hid (below_keep HB2.out (Nat.le_refl _) hb3); have HN := Lib.hid (show w3.cell? ⟨gn, 1, none⟩ = some (.int .i64 2) from hcn 1 _ rfl); clear hr3 ho5 hb3 hcn))
  · obtain ⟨V, hV⟩ : ∃ V, laidV l = V := ⟨_, rfl⟩
    rw [hV] at HR3 hLV ⊢
    clear hV hla
    have s2 : S3 2 := ⟨by omega, by omega⟩
    have hk := Lib.hid (fun w hr => write_is A3 c3 V 2 o t w hr (by omega) htl)
    obtain ⟨⟨er, W1⟩, hR⟩ : ∃ R, writeR V 2 o t = R := ⟨_, rfl⟩
    rw [hR] at hk
    have k1 := HN.out
    by_cases he : er = 0
    · subst he
      obtain ⟨L1, qiff, qroom⟩ := needs_pure hLV.out hR
      have hfirst := first_pure hLV.out
      have hbl := blocks_len V 2
      have hbl2 := blocks_len W1 2
      have hneV := need_le (inoV V 2)
      have hneW := need_le (inoV W1 2)
      have hbg := fun k hk => blocks_get V 2 k hk
      have hbg2 := fun k hk => blocks_get W1 2 k hk
      have htl0 := fun k h1 h2 => hLV.out.tail0 (n := 2) (k := k) s2 h1 h2
      obtain ⟨H, hH⟩ : ∃ H, blocksV V 2 = H := ⟨_, rfl⟩
      obtain ⟨N, hN⟩ : ∃ N, blocksV W1 2 = N := ⟨_, rfl⟩
      obtain ⟨cn2, hcn2⟩ : ∃ cn2, countV V 2 = cn2 := ⟨_, rfl⟩
      have hbv : Hid (∀ w, RS w A3 V → Calls Try.prog 18 #[.slice A3 V.length c3, .int .i64 2] w fun e w' => ∃ u, e = .returned u ∧ w'.ownsRow w.heap.size 3 1 u H.length (ints H) ∧ Below w.heap.size w w') := Lib.hid (fun w hr => blocks_at hLV.out s2 hH rfl A3 c3 w hr)
      have hbw : Hid (∀ (A : Option Addr) (c : Nat) w, RS w A W1 → Calls Try.prog 18 #[.slice A W1.length c, .int .i64 2] w fun e w' => ∃ u, e = .returned u ∧ w'.ownsRow w.heap.size 3 1 u N.length (ints N) ∧ Below w.heap.size w w') := Lib.hid (fun A c w hr => blocks_at L1 s2 hN rfl A c w hr)
      have hct : Hid (∀ w, RS w A3 V → Calls Try.prog 22 #[.slice A3 V.length c3, .int .i64 2] w fun e w' => e = .returned (.int .i64 cn2) ∧ Below w.heap.size w w') := Lib.hid (fun w hr => by rw [← hcn2]; exact count_ok A3 c3 V 2 w hr hLV.out.sv.ok (by omega) (by rw [hLV.out.ino]; omega) (inoV_size _ _))
      have hrv := Lib.hid (fun w hr => room_ok A3 c3 V w hr hLV.out.sv.ok)
      have hrw := Lib.hid (fun A c w hr => room_ok A c W1 w hr L1.sv.ok)
      have hof := Lib.hid (fun A c w hr => rof_ok A c W1 w hr L1.sv.ok)
      have hlen : W1.length = 40 := L1.len
      have hfv : freeN V ≤ V.length := Nat.le_trans List.countP_le_length (by simp)
      have hfw : freeN W1 ≤ W1.length := Nat.le_trans List.countP_le_length (by simp)
      have hVl : V.length = 40 := hLV.out.len
      rw [hH] at hfirst hbl hbg
      rw [hN] at hbl2 hbg2
      rw [hcn2] at hfirst
      rw [← hbl] at hfirst hneV hbg htl0
      rw [← hbl2] at qiff qroom hneW hbg2
      have hgd : ∀ k, k < H.length → (0 ≤ H.getD k (-1) ↔ refV V (inoV V 2) k ≠ 0) := fun k hk => by
        rw [List.getD_eq_getElem?_getD, hbg k hk, Option.getD_some, hole_pos]
      have hgd2 : ∀ k, k < N.length → (0 ≤ N.getD k (-1) ↔ refV W1 (inoV W1 2) k ≠ 0) := fun k hk => by
        rw [List.getD_eq_getElem?_getD, hbg2 k hk, Option.getD_some, hole_pos]
      have HI := Lib.hid qiff
      have HQ := Lib.hid qroom
      have HFI := Lib.hid hfirst
      have HG := Lib.hid hgd
      have HG2 := Lib.hid hgd2
      have HT0 := Lib.hid htl0
      have HLN := Lib.hid hlen
      have HVL := Lib.hid hVl
      clear L1 qiff qroom hfirst hbl hbl2 hbg hbg2 hgd hgd2 htl0 hH hN hcn2 hR hLV s2 hlen hVl
      obtain ⟨qo, hqo⟩ : ∃ qo, o / 128 = qo := ⟨_, rfl⟩
      obtain ⟨qK, hqK⟩ : ∃ qK, (o + t.length - 1) / 128 = qK := ⟨_, rfl⟩
      have hqoi : (o : Int) / 128 = (qo : Int) := by omega
      have hwq : IntKind.i64.wrap (qo : Int) = (qo : Int) := by simp [IntKind.wrap, IntKind.bits, IntKind.signed]; omega
      have hwe : IntKind.i64.wrap ((o : Int) + (t.length : Int)) = (o : Int) + (t.length : Int) := by simp [IntKind.wrap, IntKind.bits, IntKind.signed]; omega
      have hwe1 : IntKind.i64.wrap ((o : Int) + (t.length : Int) - 1) = (o : Int) + (t.length : Int) - 1 := by simp [IntKind.wrap, IntKind.bits, IntKind.signed]; omega
      have hqKi : (0 : Int) < (t.length : Int) → ((o : Int) + (t.length : Int) - 1) / 128 = (qK : Int) := fun h => by omega
      have hwqK : IntKind.i64.wrap (qK : Int) = (qK : Int) := by simp [IntKind.wrap, IntKind.bits, IntKind.signed]; omega
      have h0e : (0 : Int) < (t.length : Int) → (0 : Int) ≤ (o : Int) + (t.length : Int) - 1 := fun h => by omega
      have HQK := Lib.hid hqKi
      have H0E := Lib.hid h0e
      have HQO1 := Lib.hid hqo
      have HQK1 := Lib.hid hqK
      clear hqKi h0e hqo hqK
      go_upto_region 10 with (go_at_call 35; refine (hk.out _ HR3.out).mono ?_; rintro e w4 ⟨A4, c4, rfl, hr4, hb4⟩; have HR4 := Lib.hid hr4; have HB4 := Lib.hid hb4; clear hr4 hb4 k1)
      have hd0 : Below w4.heap.size w4 w4.drew := (Below.refl _ _).drew
      have R3 := Lib.hid ((HR3.out.below HB4.out).below hd0)
      have R4 := Lib.hid (HR4.out.below hd0)
      have rc1 := cell_keep (cell_keep HN.out HB4.out) hd0
      have RB := Lib.hid (below_keep (below_keep HB3.out (Nat.le_refl _) HB4.out) (Nat.le_refl _) hd0)
      clear hd0
      refine region_P (fun w' => Hid (RS w' A3 V) ∧ Hid (RS w' A4 W1) ∧ w'.cell? ⟨gn, 1, none⟩ = some (.int .i64 2) ∧ Hid (Below w.heap.size w w')) [] (by kernel_rfl) ?_ (fun hHeld => ?_)
      · exact ⟨R3, R4, rc1, RB⟩
      refine wpP_take (i := 0) (oi := ?oi699001) (v := ?v699001) ?hi699001 (by kernel_rfl) (by kernel_rfl) (by kernel_rfl) (by kernel_rfl) ?hQ699001 ?hy699001 (by assumption) ?rest699001
      case hi699001 => (simp only [List.getElem?_toArray, List.getElem?_cons_succ, List.getElem?_cons_zero]; exact rfl)
      case hQ699001 => exact fun _ _ _ h => h
      case hy699001 => (refine Or.inl ⟨by kernel_rfl, ?_⟩; intro w hSw; (try dsimp only at hSw); go_simp; try (with_reducible rfl))
      try simp only [Act.put, List.setIfInBounds_toArray, List.set_cons_zero, List.set_cons_succ]
      refine wpP_take (i := 1) (oi := ?oi699002) (v := ?v699002) ?hi699002 (by kernel_rfl) (by kernel_rfl) (by kernel_rfl) (by kernel_rfl) ?hQ699002 ?hy699002 (by assumption) ?rest699002
      case hi699002 => (simp only [List.getElem?_toArray, List.getElem?_cons_succ, List.getElem?_cons_zero]; exact rfl)
      case hQ699002 => exact fun _ _ _ h => h
      case hy699002 => (refine Or.inl ⟨by kernel_rfl, ?_⟩; intro w hSw; (try dsimp only at hSw); go_simp; try (with_reducible rfl))
      try simp only [Act.put, List.setIfInBounds_toArray, List.set_cons_zero, List.set_cons_succ]
      refine wpP_take (i := 2) (oi := ?oi699003) (v := ?v699003) ?hi699003 (by kernel_rfl) (by kernel_rfl) (by kernel_rfl) (by kernel_rfl) ?hQ699003 ?hy699003 (by assumption) ?rest699003
      case hi699003 => (simp only [List.getElem?_toArray, List.getElem?_cons_succ, List.getElem?_cons_zero]; exact rfl)
      case hQ699003 => exact fun _ _ _ h => h
      case hy699003 => (refine Or.inl ⟨by kernel_rfl, ?_⟩; intro w hSw; (try dsimp only at hSw); go_simp; try (with_reducible rfl))
      try simp only [Act.put, List.setIfInBounds_toArray, List.set_cons_zero, List.set_cons_succ]
      refine wpP_take (i := 3) (oi := ?oi699004) (v := ?v699004) ?hi699004 (by kernel_rfl) (by kernel_rfl) (by kernel_rfl) (by kernel_rfl) ?hQ699004 ?hy699004 (by assumption) ?rest699004
      case hi699004 => (simp only [List.getElem?_toArray, List.getElem?_cons_succ, List.getElem?_cons_zero]; exact rfl)
      case hQ699004 => exact fun _ _ _ h => h
      case hy699004 => (refine Or.inl ⟨by kernel_rfl, ?_⟩; intro w hSw; (try dsimp only at hSw); go_simp; try (with_reducible rfl))
      try simp only [Act.put, List.setIfInBounds_toArray, List.set_cons_zero, List.set_cons_succ]
      refine wpP_take (i := 5) (oi := ?oi699005) (v := ?v699005) ?hi699005 (by kernel_rfl) (by kernel_rfl) (by kernel_rfl) (by kernel_rfl) ?hQ699005 ?hy699005 (by assumption) ?rest699005
      case hi699005 => (simp only [List.getElem?_toArray, List.getElem?_cons_succ, List.getElem?_cons_zero]; exact rfl)
      case hQ699005 => exact fun _ _ _ h => h
      case hy699005 => (refine Or.inl ⟨by kernel_rfl, ?_⟩; intro w hSw; (try dsimp only at hSw); go_simp; try (with_reducible rfl))
      try simp only [Act.put, List.setIfInBounds_toArray, List.set_cons_zero, List.set_cons_succ]
      refine wpP_take (i := 6) (oi := ?oi699006) (v := ?v699006) ?hi699006 (by kernel_rfl) (by kernel_rfl) (by kernel_rfl) (by kernel_rfl) ?hQ699006 ?hy699006 (by assumption) ?rest699006
      case hi699006 => (simp only [List.getElem?_toArray, List.getElem?_cons_succ, List.getElem?_cons_zero]; exact rfl)
      case hQ699006 => exact fun _ _ _ h => h
      case hy699006 => (refine Or.inl ⟨by kernel_rfl, ?_⟩; intro w hSw; (try dsimp only at hSw); go_simp; try (with_reducible rfl))
      try simp only [Act.put, List.setIfInBounds_toArray, List.set_cons_zero, List.set_cons_succ]
      refine wpP_take (i := 7) (oi := ?oi699007) (v := ?v699007) ?hi699007 (by kernel_rfl) (by kernel_rfl) (by kernel_rfl) (by kernel_rfl) ?hQ699007 ?hy699007 (by assumption) ?rest699007
      case hi699007 => (simp only [List.getElem?_toArray, List.getElem?_cons_succ, List.getElem?_cons_zero]; exact rfl)
      case hQ699007 => exact fun _ _ _ h => h
      case hy699007 => (refine Or.inl ⟨by kernel_rfl, ?_⟩; intro w hSw; (try dsimp only at hSw); go_simp; try (with_reducible rfl))
      try simp only [Act.put, List.setIfInBounds_toArray, List.set_cons_zero, List.set_cons_succ]
      refine wpP_take (i := 8) (oi := ?oi699008) (v := ?v699008) ?hi699008 (by kernel_rfl) (by kernel_rfl) (by kernel_rfl) (by kernel_rfl) ?hQ699008 ?hy699008 (by assumption) ?rest699008
      case hi699008 => (simp only [List.getElem?_toArray, List.getElem?_cons_succ, List.getElem?_cons_zero]; exact rfl)
      case hQ699008 => exact fun _ _ _ h => h
      case hy699008 => (refine Or.inl ⟨by kernel_rfl, ?_⟩; intro w hSw; (try dsimp only at hSw); go_simp; try (with_reducible rfl))
      try simp only [Act.put, List.setIfInBounds_toArray, List.set_cons_zero, List.set_cons_succ]
      refine wpP_ready (rs := [4]) (by kernel_rfl) (by simp) ?_
      refine AllP.cons (o := ?o699009) ?ho699009 (fun K hK => ?_) AllP.nil
      case ho699009 => (simp only [List.getElem?_toArray, List.getElem?_cons_succ, List.getElem?_cons_zero]; exact rfl)
      go_simp
      go_at_call 18
      refine (hbv.out _ hHeld.1.out).mono ?_
      rintro e w5 ⟨u1, rfl, ho1, hb5⟩
      obtain ⟨a1, cp1, rfl⟩ := own_slice ho1
      refine hK.out _ _ ?_ (fun hHeld => ?_)
      · exact ⟨Lib.hid (hHeld.1.out.below hb5), Lib.hid (hHeld.2.1.out.below hb5), cell_keep hHeld.2.2.1 hb5, Lib.hid (below_keep hHeld.2.2.2.out (Nat.le_refl _) hb5)⟩
      clear hK K
      try simp only [Act.put, List.setIfInBounds_toArray, List.set_cons_zero, List.set_cons_succ]
      refine wpP_ready (rs := [9]) (by kernel_rfl) (by simp) ?_
      refine AllP.cons (o := ?o699010) ?ho699010 (fun K hK => ?_) AllP.nil
      case ho699010 => (simp only [List.getElem?_toArray, List.getElem?_cons_succ, List.getElem?_cons_zero]; exact rfl)
      go_simp
      go_at_call 18
      refine (hbw.out _ _ _ hHeld.2.1.out).mono ?_
      rintro e w6 ⟨u2, rfl, ho2, hb6⟩
      obtain ⟨a2, cp2, rfl⟩ := own_slice ho2
      refine hK.out _ _ ?_ (fun hHeld => ?_)
      · exact ⟨Lib.hid (hHeld.1.out.below hb6), Lib.hid (hHeld.2.1.out.below hb6), cell_keep hHeld.2.2.1 hb6, Lib.hid (below_keep hHeld.2.2.2.out (Nat.le_refl _) hb6)⟩
      clear hK K
      try simp only [Act.put, List.setIfInBounds_toArray, List.set_cons_zero, List.set_cons_succ]
      refine wpP_take (i := 10) (oi := ?oi699011) (v := ?v699011) ?hi699011 (by kernel_rfl) (by kernel_rfl) (by kernel_rfl) (by kernel_rfl) ?hQ699011 ?hy699011 (by assumption) ?rest699011
      case hi699011 => (simp only [List.getElem?_toArray, List.getElem?_cons_succ, List.getElem?_cons_zero]; exact rfl)
      case hQ699011 => exact fun _ _ _ h => h
      case hy699011 => (refine Or.inl ⟨by kernel_rfl, ?_⟩; intro w hSw; (try dsimp only at hSw); go_simp; try (with_reducible rfl))
      try simp only [Act.put, List.setIfInBounds_toArray, List.set_cons_zero, List.set_cons_succ]
      refine wpP_take (i := 11) (oi := ?oi699012) (v := ?v699012) ?hi699012 (by kernel_rfl) (by kernel_rfl) (by kernel_rfl) (by kernel_rfl) ?hQ699012 ?hy699012 (by assumption) ?rest699012
      case hi699012 => (simp only [List.getElem?_toArray, List.getElem?_cons_succ, List.getElem?_cons_zero]; exact rfl)
      case hQ699012 => exact fun _ _ _ h => h
      case hy699012 => (refine Or.inl ⟨by kernel_rfl, ?_⟩; intro w hSw; (try dsimp only at hSw); go_simp; try (with_reducible rfl))
      try simp only [Act.put, List.setIfInBounds_toArray, List.set_cons_zero, List.set_cons_succ]
      refine wpP_done (by kernel_rfl) ?_ _
      have O1 := Lib.hid (own_below ho1 hb6)
      have O2 := Lib.hid ho2
      obtain ⟨R3', R4', rc1', RB'⟩ := hHeld
      clear rc1 R3 R4 RB ho1 ho2
      have e13 : Below w4.heap.size w4 w4 := Below.refl _ _
      go_upto_region 12 with (go_at_call 22; refine (hct.out _ R3'.out).mono ?_; rintro e w7 ⟨rfl, hb7⟩; have HB7 := Lib.hid hb7; clear hb7)
      have P1 := Lib.hid (own_below O1.out HB7.out)
      have P2 := Lib.hid (own_below O2.out HB7.out)
      have RV := Lib.hid (R3'.out.below HB7.out)
      have RW := Lib.hid (R4'.out.below HB7.out)
      have RB7 := Lib.hid (below_keep RB'.out (Nat.le_refl _) HB7.out)
      clear O1 O2 R3' R4' RB' HB7 rc1' e13 hb5 hb6
      have hcb : cn2 ≤ 100 := by
        have := HFI.out
        have := posT_le H H.length
        have h1 : one (refV V (inoV V 2) 70 != 0) ≤ 1 := by cases (refV V (inoV V 2) 70 != 0) <;> simp [one]
        omega
      go_wp2
      go_loopw [16, 74] (fun fv iv wr => ∃ k : Nat, k ≤ H.length ∧ fv = .int .i64 ((cn2 : Int) - (posT H k : Int)) ∧ iv = .int .i64 k ∧ wr = w7) (fun _ iv _ => H.length - (intOf iv).toNat)
      case atStart => exact ⟨0, by omega, by simp [posT], rfl, rfl⟩
      case round =>
        obtain ⟨k, hk, rfl, rfl, rfl⟩ := hrel
        by_cases hlt : k < H.length
        · have hki : (k : Int) < (H.length : Int) := by omega
          obtain ⟨ga, ca, e1, _, hca⟩ := own_open P1.out (by omega)
          injection e1 with e1a e1b e1c
          subst e1a e1c
          have hc1 := hca k _ (ints_get H k hlt)
          have hps := posT_succ H k
          have hpl := posT_le H k
          obtain ⟨y, hy⟩ : ∃ y, H.getD k (-1) = y := ⟨_, rfl⟩
          rw [hy] at hc1 hps
          clear hca hy
          by_cases h0 : 0 ≤ y
          · rw [if_pos h0] at hps
            have HPS := Lib.hid hps
            clear hps
            generalize posT H k = S at *
            go_wp2
            exact ⟨⟨k + 1, by omega, by rw [HPS.out]; go_num, by go_num, trivial⟩, by simp only [intOf]; go_num⟩
          · rw [if_neg h0] at hps
            have HPS := Lib.hid hps
            clear hps
            generalize posT H k = S at *
            go_wp2
            exact ⟨⟨k + 1, by omega, by rw [HPS.out]; first | rfl | go_num, by go_num, trivial⟩, by simp only [intOf]; go_num⟩
        · obtain rfl : k = H.length := by omega
          obtain ⟨f1, hf1⟩ : ∃ f1, one (refV V (inoV V 2) 70 != 0) = f1 := ⟨_, rfl⟩
          have hfi := HFI.out
          rw [hf1] at hfi
          have hff : (cn2 : Int) - (posT H H.length : Int) = (f1 : Int) := by omega
          rw [hff]
          have HF1 := Lib.hid hf1
          obtain ⟨W0, hW0⟩ : ∃ W0, W0 = wr := ⟨_, rfl⟩
          subst hW0
          clear hff hfi hf1 hk hlt
          go_wp2
          go_loopw [14, 15, 85] (fun fv bv iv wr => ∃ k : Nat, k ≤ N.length ∧ fv = .int .i64 (frT V o t k) ∧ bv = .bool (byT V o t k) ∧ iv = .int .i64 k ∧ wr = W0) (fun _ _ iv _ => N.length - (intOf iv).toNat)
          case atStart => exact ⟨0, by omega, by simp [frT], by simp [byT], rfl, rfl⟩
          case round =>
            obtain ⟨k, hk, rfl, rfl, rfl, rfl⟩ := hrel
            by_cases hlt2 : k < N.length
            case neg =>
              obtain rfl : k = N.length := by omega
              have hres := HQ.out
              have hfl : frT V o t N.length ≤ N.length := Nat.le_trans List.countP_le_length (by simp)
              obtain ⟨ff, hff⟩ : ∃ ff, frT V o t N.length = ff := ⟨_, rfl⟩
              obtain ⟨bb, hbb⟩ : ∃ bb, byT V o t N.length = bb := ⟨_, rfl⟩
              obtain ⟨rv, hrv'⟩ : ∃ rv, freeN V = rv := ⟨_, rfl⟩
              obtain ⟨rw', hrw'⟩ : ∃ rw', freeN W1 = rw' := ⟨_, rfl⟩
              rw [hff, hbb, hrv', hrw'] at hres
              rw [hrv'] at hrv hfv
              rw [hrw'] at hrw hfw
              rw [hff] at hfl
              rw [hff, hbb]
              have hvl := HVL.out
              have hwl := HLN.out
              rw [hvl] at hfv
              rw [hwl] at hfw
              have hl40 : (((W1.length : Nat) : Int) == 40) = true := by rw [hwl]; rfl
              have hcase : (f1 = 0 ∧ bb = true ∧ (rv : Int) - (rw' : Int) = (ff : Int) + 1) ∨ (f1 = 0 ∧ bb = false ∧ (rv : Int) - (rw' : Int) = (ff : Int)) ∨ (f1 = 1 ∧ (rv : Int) - (rw' : Int) = (ff : Int)) := by
                have h1 := HF1.out
                by_cases c : refV V (inoV V 2) 70 = 0
                · rw [c] at h1
                  have h2 : f1 = 0 := h1.symm
                  cases bb
                  · rw [if_neg (by simp)] at hres
                    exact .inr (.inl ⟨h2, rfl, by omega⟩)
                  · rw [if_pos ⟨c, rfl⟩] at hres
                    exact .inl ⟨h2, rfl, by omega⟩
                · rw [show (refV V (inoV V 2) 70 != 0) = true from by simpa using c] at h1
                  have h2 : f1 = 1 := h1.symm
                  rw [if_neg (fun h => c h.1)] at hres
                  exact .inr (.inr ⟨h2, by omega⟩)
              have hwsub : IntKind.i64.wrap ((rv : Int) - (rw' : Int)) = (rv : Int) - (rw' : Int) := by simp [IntKind.wrap, IntKind.bits, IntKind.signed]; omega
              clear hres hff hbb hrv' hrw' hvl hwl
              rcases hcase with ⟨rfl, rfl, hsub⟩ | ⟨rfl, rfl, hsub⟩ | ⟨rfl, hsub⟩
              · go_wp2_with (first
                  | (go_at_call 46; refine (hof.out _ _ _ RW.out).mono ?_; rintro e w8 ⟨rfl, hb8⟩; have HB8 := Lib.hid (hb8.alloc hb8.size (.cells #[.int .i64 W1.length, .int .i64 (inosV W1), .int .i64 1, .int .i64 2, .int .i64 3, .int .i64 (3 + ((inosV W1 : Nat) + 1 : Int) / 2)] 66)); have HG8 := Lib.hid (blk_new w8 (.cells #[.int .i64 W1.length, .int .i64 (inosV W1), .int .i64 1, .int .i64 2, .int .i64 3, .int .i64 (3 + ((inosV W1 : Nat) + 1 : Int) / 2)] 66)); clear hb8 hof)
                  | (go_at_call 17; refine (fixed_ok _).mono ?_; rintro e w9 ⟨rfl, hb9⟩; have HB9 := Lib.hid (below_keep HB8.out (Nat.le_refl _) hb9); obtain ⟨g0, g1, g2, g3, g4, g5⟩ := cells6 (blk_keep HG8.out hb9); clear hb9)
                  | (go_at_call 47; refine (hrv.out _ (RV.out.below HB9.out)).mono ?_; rintro e w10 ⟨rfl, hb10⟩; have HB10 := Lib.hid (below_keep HB9.out (Nat.le_refl _) hb10); clear hb10 hrv)
                  | (go_at_call 47; refine (hrw.out _ _ _ (RW.out.below HB10.out)).mono ?_; rintro e w11 ⟨rfl, hb11⟩; have HB11 := Lib.hid (below_keep HB10.out (Nat.le_refl _) hb11); clear hb11))
                go_ret
                exact ⟨rfl, below_keep RB7.out (Nat.le_refl _) HB11.out⟩
              · go_wp2_with (first
                  | (go_at_call 46; refine (hof.out _ _ _ RW.out).mono ?_; rintro e w8 ⟨rfl, hb8⟩; have HB8 := Lib.hid (hb8.alloc hb8.size (.cells #[.int .i64 W1.length, .int .i64 (inosV W1), .int .i64 1, .int .i64 2, .int .i64 3, .int .i64 (3 + ((inosV W1 : Nat) + 1 : Int) / 2)] 66)); have HG8 := Lib.hid (blk_new w8 (.cells #[.int .i64 W1.length, .int .i64 (inosV W1), .int .i64 1, .int .i64 2, .int .i64 3, .int .i64 (3 + ((inosV W1 : Nat) + 1 : Int) / 2)] 66)); clear hb8 hof)
                  | (go_at_call 17; refine (fixed_ok _).mono ?_; rintro e w9 ⟨rfl, hb9⟩; have HB9 := Lib.hid (below_keep HB8.out (Nat.le_refl _) hb9); obtain ⟨g0, g1, g2, g3, g4, g5⟩ := cells6 (blk_keep HG8.out hb9); clear hb9)
                  | (go_at_call 47; refine (hrv.out _ (RV.out.below HB9.out)).mono ?_; rintro e w10 ⟨rfl, hb10⟩; have HB10 := Lib.hid (below_keep HB9.out (Nat.le_refl _) hb10); clear hb10 hrv)
                  | (go_at_call 47; refine (hrw.out _ _ _ (RW.out.below HB10.out)).mono ?_; rintro e w11 ⟨rfl, hb11⟩; have HB11 := Lib.hid (below_keep HB10.out (Nat.le_refl _) hb11); clear hb11))
                go_ret
                exact ⟨rfl, below_keep RB7.out (Nat.le_refl _) HB11.out⟩
              · go_wp2_with (first
                  | (go_at_call 46; refine (hof.out _ _ _ RW.out).mono ?_; rintro e w8 ⟨rfl, hb8⟩; have HB8 := Lib.hid (hb8.alloc hb8.size (.cells #[.int .i64 W1.length, .int .i64 (inosV W1), .int .i64 1, .int .i64 2, .int .i64 3, .int .i64 (3 + ((inosV W1 : Nat) + 1 : Int) / 2)] 66)); have HG8 := Lib.hid (blk_new w8 (.cells #[.int .i64 W1.length, .int .i64 (inosV W1), .int .i64 1, .int .i64 2, .int .i64 3, .int .i64 (3 + ((inosV W1 : Nat) + 1 : Int) / 2)] 66)); clear hb8 hof)
                  | (go_at_call 17; refine (fixed_ok _).mono ?_; rintro e w9 ⟨rfl, hb9⟩; have HB9 := Lib.hid (below_keep HB8.out (Nat.le_refl _) hb9); obtain ⟨g0, g1, g2, g3, g4, g5⟩ := cells6 (blk_keep HG8.out hb9); clear hb9)
                  | (go_at_call 47; refine (hrv.out _ (RV.out.below HB9.out)).mono ?_; rintro e w10 ⟨rfl, hb10⟩; have HB10 := Lib.hid (below_keep HB9.out (Nat.le_refl _) hb10); clear hb10 hrv)
                  | (go_at_call 47; refine (hrw.out _ _ _ (RW.out.below HB10.out)).mono ?_; rintro e w11 ⟨rfl, hb11⟩; have HB11 := Lib.hid (below_keep HB10.out (Nat.le_refl _) hb11); clear hb11))
                go_ret
                exact ⟨rfl, below_keep RB7.out (Nat.le_refl _) HB11.out⟩
            have hki : (k : Int) < (N.length : Int) := by omega
            obtain ⟨gb2, cb2, e1, _, hcb2⟩ := own_open P2.out (by omega)
            injection e1 with e1a e1b e1c
            subst e1a e1c
            have hc2 := hcb2 k _ (ints_get N k hlt2)
            have hy2i := HG2.out k hlt2
            have hiff := HI.out k hlt2
            obtain ⟨y2, hy2e⟩ : ∃ y, N.getD k (-1) = y := ⟨_, rfl⟩
            rw [hy2e] at hc2 hy2i
            have hfl : frT V o t k ≤ k := Nat.le_trans List.countP_le_length (by simp)
            have hwas : ((k : Int) < (H.length : Int) ∧ ∃ ga, a1 = some ⟨ga, 0, none⟩ ∧ ∃ y, wr.cell? ⟨ga, k, none⟩ = some (.int .i64 y) ∧ 0 ≤ y ∧ refV V (inoV V 2) k ≠ 0) ∨ ((k : Int) < (H.length : Int) ∧ ∃ ga, a1 = some ⟨ga, 0, none⟩ ∧ ∃ y, wr.cell? ⟨ga, k, none⟩ = some (.int .i64 y) ∧ ¬ 0 ≤ y ∧ refV V (inoV V 2) k = 0) ∨ (¬ (k : Int) < (H.length : Int) ∧ refV V (inoV V 2) k = 0) := by
              by_cases hkH : k < H.length
              · obtain ⟨ga, ca, e2, _, hca⟩ := own_open P1.out (by omega)
                injection e2 with e2a e2b e2c
                have hcy := hca k _ (ints_get H k hkH)
                have hg := HG.out k hkH
                by_cases h0 : 0 ≤ H.getD k (-1)
                · exact .inl ⟨by omega, ga, e2a, _, hcy, h0, hg.1 h0⟩
                · exact .inr (.inl ⟨by omega, ga, e2a, _, hcy, h0, Classical.not_not.1 (fun h => h0 (hg.2 h))⟩)
              · exact .inr (.inr ⟨by omega, HT0.out k (by omega) (by omega)⟩)
            clear hcb2 hy2e
            cases htc : tch o t k
            · have hc3 : (¬ (0 : Int) < (t.length : Int)) ∨ ((0 : Int) < (t.length : Int) ∧ ¬ (qo : Int) ≤ (k : Int)) ∨ ((0 : Int) < (t.length : Int) ∧ (qo : Int) ≤ (k : Int) ∧ ¬ (k : Int) ≤ (qK : Int)) := by
                have := of_decide_eq_false htc
                have := HQO1.out
                have := HQK1.out
                omega
              rcases hc3 with hc | hc | hc
              · have hT1 : ¬ (0 : Int) < (t.length : Int) := hc
                rcases hwas with ⟨hk1, ga, rfl, y, hcy, hy, hrv⟩ | ⟨hk1, ga, rfl, y, hcy, hy, hrv⟩ | ⟨hk1, hrv⟩
                · have hfb : frB V o t k = false := by rw [frB, htc]; rfl
                  have hy2 : (0 : Int) ≤ y2 := hy2i.2 (hiff.2 (.inr hrv))
                  have HF := Lib.hid (show frT V o t (k + 1) = frT V o t k + 0 from by rw [frT_succ, hfb]; rfl)
                  have HBY := Lib.hid (show byT V o t (k + 1) = byT V o t k from by rw [byT_succ, hfb]; simp)
                  clear hfb hiff hy2i hrv htc hc
                  generalize byT V o t k = bb at *
                  generalize frT V o t k = ff at *
                  go_wp2
                  exact ⟨⟨k + 1, by omega, by rw [HF.out]; first | rfl | go_num, by rw [HBY.out], by go_num, trivial⟩, by simp only [intOf]; go_num⟩
                · have hfb : frB V o t k = false := by rw [frB, htc]; rfl
                  have hy2 : ¬ (0 : Int) ≤ y2 := fun h => absurd (hy2i.1 h) (by rw [hiff]; simp [htc, hrv])
                  have HF := Lib.hid (show frT V o t (k + 1) = frT V o t k + 0 from by rw [frT_succ, hfb]; rfl)
                  have HBY := Lib.hid (show byT V o t (k + 1) = byT V o t k from by rw [byT_succ, hfb]; simp)
                  clear hfb hiff hy2i hrv htc hc
                  generalize byT V o t k = bb at *
                  generalize frT V o t k = ff at *
                  go_wp2
                  exact ⟨⟨k + 1, by omega, by rw [HF.out]; first | rfl | go_num, by rw [HBY.out], by go_num, trivial⟩, by simp only [intOf]; go_num⟩
                · have hfb : frB V o t k = false := by rw [frB, htc]; rfl
                  have hy2 : ¬ (0 : Int) ≤ y2 := fun h => absurd (hy2i.1 h) (by rw [hiff]; simp [htc, hrv])
                  have HF := Lib.hid (show frT V o t (k + 1) = frT V o t k + 0 from by rw [frT_succ, hfb]; rfl)
                  have HBY := Lib.hid (show byT V o t (k + 1) = byT V o t k from by rw [byT_succ, hfb]; simp)
                  clear hfb hiff hy2i hrv htc hc
                  generalize byT V o t k = bb at *
                  generalize frT V o t k = ff at *
                  go_wp2
                  exact ⟨⟨k + 1, by omega, by rw [HF.out]; first | rfl | go_num, by rw [HBY.out], by go_num, trivial⟩, by simp only [intOf]; go_num⟩
              · have hT1 : (0 : Int) < (t.length : Int) := hc.1
                have hT2 : ¬ (qo : Int) ≤ (k : Int) := hc.2
                rcases hwas with ⟨hk1, ga, rfl, y, hcy, hy, hrv⟩ | ⟨hk1, ga, rfl, y, hcy, hy, hrv⟩ | ⟨hk1, hrv⟩
                · have hfb : frB V o t k = false := by rw [frB, htc]; rfl
                  have hy2 : (0 : Int) ≤ y2 := hy2i.2 (hiff.2 (.inr hrv))
                  have HF := Lib.hid (show frT V o t (k + 1) = frT V o t k + 0 from by rw [frT_succ, hfb]; rfl)
                  have HBY := Lib.hid (show byT V o t (k + 1) = byT V o t k from by rw [byT_succ, hfb]; simp)
                  clear hfb hiff hy2i hrv htc hc
                  generalize byT V o t k = bb at *
                  generalize frT V o t k = ff at *
                  go_wp2
                  exact ⟨⟨k + 1, by omega, by rw [HF.out]; first | rfl | go_num, by rw [HBY.out], by go_num, trivial⟩, by simp only [intOf]; go_num⟩
                · have hfb : frB V o t k = false := by rw [frB, htc]; rfl
                  have hy2 : ¬ (0 : Int) ≤ y2 := fun h => absurd (hy2i.1 h) (by rw [hiff]; simp [htc, hrv])
                  have HF := Lib.hid (show frT V o t (k + 1) = frT V o t k + 0 from by rw [frT_succ, hfb]; rfl)
                  have HBY := Lib.hid (show byT V o t (k + 1) = byT V o t k from by rw [byT_succ, hfb]; simp)
                  clear hfb hiff hy2i hrv htc hc
                  generalize byT V o t k = bb at *
                  generalize frT V o t k = ff at *
                  go_wp2
                  exact ⟨⟨k + 1, by omega, by rw [HF.out]; first | rfl | go_num, by rw [HBY.out], by go_num, trivial⟩, by simp only [intOf]; go_num⟩
                · have hfb : frB V o t k = false := by rw [frB, htc]; rfl
                  have hy2 : ¬ (0 : Int) ≤ y2 := fun h => absurd (hy2i.1 h) (by rw [hiff]; simp [htc, hrv])
                  have HF := Lib.hid (show frT V o t (k + 1) = frT V o t k + 0 from by rw [frT_succ, hfb]; rfl)
                  have HBY := Lib.hid (show byT V o t (k + 1) = byT V o t k from by rw [byT_succ, hfb]; simp)
                  clear hfb hiff hy2i hrv htc hc
                  generalize byT V o t k = bb at *
                  generalize frT V o t k = ff at *
                  go_wp2
                  exact ⟨⟨k + 1, by omega, by rw [HF.out]; first | rfl | go_num, by rw [HBY.out], by go_num, trivial⟩, by simp only [intOf]; go_num⟩
              · have hT1 : (0 : Int) < (t.length : Int) := hc.1
                have hT2 : (qo : Int) ≤ (k : Int) := hc.2.1
                have hT3 : ¬ (k : Int) ≤ (qK : Int) := hc.2.2
                have hqk := HQK.out hT1
                have h0e := H0E.out hT1
                rcases hwas with ⟨hk1, ga, rfl, y, hcy, hy, hrv⟩ | ⟨hk1, ga, rfl, y, hcy, hy, hrv⟩ | ⟨hk1, hrv⟩
                · have hfb : frB V o t k = false := by rw [frB, htc]; rfl
                  have hy2 : (0 : Int) ≤ y2 := hy2i.2 (hiff.2 (.inr hrv))
                  have HF := Lib.hid (show frT V o t (k + 1) = frT V o t k + 0 from by rw [frT_succ, hfb]; rfl)
                  have HBY := Lib.hid (show byT V o t (k + 1) = byT V o t k from by rw [byT_succ, hfb]; simp)
                  clear hfb hiff hy2i hrv htc hc
                  generalize byT V o t k = bb at *
                  generalize frT V o t k = ff at *
                  go_wp2
                  exact ⟨⟨k + 1, by omega, by rw [HF.out]; first | rfl | go_num, by rw [HBY.out], by go_num, trivial⟩, by simp only [intOf]; go_num⟩
                · have hfb : frB V o t k = false := by rw [frB, htc]; rfl
                  have hy2 : ¬ (0 : Int) ≤ y2 := fun h => absurd (hy2i.1 h) (by rw [hiff]; simp [htc, hrv])
                  have HF := Lib.hid (show frT V o t (k + 1) = frT V o t k + 0 from by rw [frT_succ, hfb]; rfl)
                  have HBY := Lib.hid (show byT V o t (k + 1) = byT V o t k from by rw [byT_succ, hfb]; simp)
                  clear hfb hiff hy2i hrv htc hc
                  generalize byT V o t k = bb at *
                  generalize frT V o t k = ff at *
                  go_wp2
                  exact ⟨⟨k + 1, by omega, by rw [HF.out]; first | rfl | go_num, by rw [HBY.out], by go_num, trivial⟩, by simp only [intOf]; go_num⟩
                · have hfb : frB V o t k = false := by rw [frB, htc]; rfl
                  have hy2 : ¬ (0 : Int) ≤ y2 := fun h => absurd (hy2i.1 h) (by rw [hiff]; simp [htc, hrv])
                  have HF := Lib.hid (show frT V o t (k + 1) = frT V o t k + 0 from by rw [frT_succ, hfb]; rfl)
                  have HBY := Lib.hid (show byT V o t (k + 1) = byT V o t k from by rw [byT_succ, hfb]; simp)
                  clear hfb hiff hy2i hrv htc hc
                  generalize byT V o t k = bb at *
                  generalize frT V o t k = ff at *
                  go_wp2
                  exact ⟨⟨k + 1, by omega, by rw [HF.out]; first | rfl | go_num, by rw [HBY.out], by go_num, trivial⟩, by simp only [intOf]; go_num⟩
            · have hT1 : (0 : Int) < (t.length : Int) := by have h := of_decide_eq_true htc; omega
              have hT2 : (qo : Int) ≤ (k : Int) := by have h := of_decide_eq_true htc; have := HQO1.out; omega
              have hT3 : (k : Int) ≤ (qK : Int) := by have h := of_decide_eq_true htc; have := HQK1.out; omega
              have hqk := HQK.out hT1
              have h0e := H0E.out hT1
              rcases hwas with ⟨hk1, ga, rfl, y, hcy, hy, hrv⟩ | ⟨hk1, ga, rfl, y, hcy, hy, hrv⟩ | ⟨hk1, hrv⟩
              · have hfb : frB V o t k = false := by rw [frB, htc]; simp [hrv]
                have hy2 : (0 : Int) ≤ y2 := hy2i.2 (hiff.2 (.inl htc))
                have HF := Lib.hid (show frT V o t (k + 1) = frT V o t k + 0 from by rw [frT_succ, hfb]; rfl)
                have HBY := Lib.hid (show byT V o t (k + 1) = byT V o t k from by rw [byT_succ, hfb]; simp)
                clear hfb hiff hy2i hrv htc
                generalize byT V o t k = bb at *
                generalize frT V o t k = ff at *
                go_wp2
                exact ⟨⟨k + 1, by omega, by rw [HF.out]; first | rfl | go_num, by rw [HBY.out], by go_num, trivial⟩, by simp only [intOf]; go_num⟩
              · have hfb : frB V o t k = true := by rw [frB, htc]; simp [hrv]
                have hy2 : (0 : Int) ≤ y2 := hy2i.2 (hiff.2 (.inl htc))
                have HF := Lib.hid (show frT V o t (k + 1) = frT V o t k + 1 from by rw [frT_succ, hfb]; rfl)
                cases hbb : byT V o t k
                · by_cases h6 : 6 ≤ k
                  · have h6i : (6 : Int) ≤ (k : Int) := by omega
                    have HBY := Lib.hid (show byT V o t (k + 1) = true from by rw [byT_succ, hfb, hbb]; simp [h6])
                    clear hfb hiff hy2i hrv htc h6 hbb
                    generalize frT V o t k = ff at *
                    go_wp2
                    exact ⟨⟨k + 1, by omega, by rw [HF.out]; go_num, by rw [HBY.out], by go_num, trivial⟩, by simp only [intOf]; go_num⟩
                  · have h6i : ¬ (6 : Int) ≤ (k : Int) := by omega
                    have HBY := Lib.hid (show byT V o t (k + 1) = false from by rw [byT_succ, hfb, hbb]; simp [h6])
                    clear hfb hiff hy2i hrv htc h6 hbb
                    generalize frT V o t k = ff at *
                    go_wp2
                    exact ⟨⟨k + 1, by omega, by rw [HF.out]; go_num, by rw [HBY.out], by go_num, trivial⟩, by simp only [intOf]; go_num⟩
                · have HBY := Lib.hid (show byT V o t (k + 1) = true from by rw [byT_succ, hbb]; simp)
                  clear hfb hiff hy2i hrv htc hbb
                  generalize frT V o t k = ff at *
                  go_wp2
                  exact ⟨⟨k + 1, by omega, by rw [HF.out]; go_num, by rw [HBY.out], by go_num, trivial⟩, by simp only [intOf]; go_num⟩
              · have hfb : frB V o t k = true := by rw [frB, htc]; simp [hrv]
                have hy2 : (0 : Int) ≤ y2 := hy2i.2 (hiff.2 (.inl htc))
                have HF := Lib.hid (show frT V o t (k + 1) = frT V o t k + 1 from by rw [frT_succ, hfb]; rfl)
                cases hbb : byT V o t k
                · by_cases h6 : 6 ≤ k
                  · have h6i : (6 : Int) ≤ (k : Int) := by omega
                    have HBY := Lib.hid (show byT V o t (k + 1) = true from by rw [byT_succ, hfb, hbb]; simp [h6])
                    clear hfb hiff hy2i hrv htc h6 hbb
                    generalize frT V o t k = ff at *
                    go_wp2
                    exact ⟨⟨k + 1, by omega, by rw [HF.out]; go_num, by rw [HBY.out], by go_num, trivial⟩, by simp only [intOf]; go_num⟩
                  · have h6i : ¬ (6 : Int) ≤ (k : Int) := by omega
                    have HBY := Lib.hid (show byT V o t (k + 1) = false from by rw [byT_succ, hfb, hbb]; simp [h6])
                    clear hfb hiff hy2i hrv htc h6 hbb
                    generalize frT V o t k = ff at *
                    go_wp2
                    exact ⟨⟨k + 1, by omega, by rw [HF.out]; go_num, by rw [HBY.out], by go_num, trivial⟩, by simp only [intOf]; go_num⟩
                · have HBY := Lib.hid (show byT V o t (k + 1) = true from by rw [byT_succ, hbb]; simp)
                  clear hfb hiff hy2i hrv htc hbb
                  generalize frT V o t k = ff at *
                  go_wp2
                  exact ⟨⟨k + 1, by omega, by rw [HF.out]; go_num, by rw [HBY.out], by go_num, trivial⟩, by simp only [intOf]; go_num⟩
    · have heb : (er == 0) = false := by simpa using he
      have hebn : (er != 0) = true := by simpa using he
      clear he hR hLV s2
      go_wp2_with (first
        | (go_at_call 35; refine (hk.out _ HR3.out).mono ?_; rintro e w4 ⟨A4, c4, rfl, hr4, hb4⟩; have HB4 := Lib.hid hb4; clear hr4 hb4 hk)
        | (go_at_call 17; refine (fixed_ok _).mono ?_; rintro e w8 ⟨rfl, hb8⟩; have HB8 := Lib.hid hb8; clear hb8))
      go_ret
      exact ⟨rfl, below_keep (below_keep HB3.out (Nat.le_refl _) HB4.out) (Nat.le_refl _) HB8.out⟩
  · go_ret
    exact ⟨rfl, below_keep HB2.out (Nat.le_refl _) HB8.out⟩
end Go.Proofs.Ytacdohlhalnioaa
end

/- The law ExtentNeeds, of any place. -/
section
set_option linter.unusedSimpArgs false
set_option linter.unusedVariables false
set_option maxRecDepth 20000
namespace Go.Proofs.Ytacdohlhalnioaa
open Go.RowKit

theorem needs_i (Al : Option Addr) (cl : Nat) (l : List Deed) (p : Int) (t : Blk) (w : World) (hl : RA w Al l) (hd : ∀ a ∈ l, okD a) (h0 : 0 ≤ p ∧ p ≤ 65535) (htl : (t.length : Int) ≤ 140737488351232) :
    Calls Try.prog 12 #[.slice Al l.length cl, .int .u16 p, .string (mk t)] w fun e w' => e = .returned (.bool true) ∧ Below w.heap.size w w' := by
  obtain ⟨q, rfl⟩ : ∃ q : Nat, p = (q : Int) := ⟨p.toNat, by omega⟩
  exact needs_ok Al cl l q t w hl hd (by omega) htl
end Go.Proofs.Ytacdohlhalnioaa
end

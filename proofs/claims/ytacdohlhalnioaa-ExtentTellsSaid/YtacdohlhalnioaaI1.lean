/- The fields of an inode, one by one: the iterator's contract. -/
import Derived.Test.YtacdohlhalnioaaC4
import Derived.Test.YtacdohlhalnioaaR0
import Derived.Deep.AppendLies
import Derived.Maps.AppendAt
set_option linter.unusedVariables false
set_option maxRecDepth 20000
namespace Go.Proofs.Ytacdohlhalnioaa
open Go.RowKit Go.Shelf
attribute [local go_sem] Oper.semAt_some

/-- Where the k-th field stands in memory, and how many bytes it has. -/
def foff (k : Nat) : Nat := if k = 1 then 2 else if k = 2 then 1 else k
def fsz (k : Nat) : Nat := if k < 2 then 1 else if k = 3 then 4 else 2
def fptrs (B m : Nat) : List Value := (List.range m).map fun k => Value.pointer (some ⟨B, foff k, none⟩)
theorem fptrs_length (B m : Nat) : (fptrs B m).length = m := by simp [fptrs]
theorem fptrs_succ (B m : Nat) : fptrs B (m + 1) = fptrs B m ++ [.pointer (some ⟨B, foff m, none⟩)] := by simp [fptrs, List.range_succ]
theorem fptrs_get (B m k : Nat) (h : k < m) : (fptrs B m)[k]? = some (.pointer (some ⟨B, foff k, none⟩)) := by simp [fptrs, h]
theorem foff_big (k : Nat) (h : 3 ≤ k) : foff k = k := by unfold foff; rw [if_neg (by omega), if_neg (by omega)]
theorem infoPtr : (Try.prog.info? 135).map (fun i => (i.zero, i.size, i.bytes)) = some (some (.pointer none), 1, 8) := by kernel_rfl

set_option maxHeartbeats 400000 in
theorem fields_ok (B : Nat) (w : World) :
    Calls Try.prog 107 #[.pointer (some ⟨B, 0, none⟩)] w fun e w' => e = .returned (.func (.func 128) #[] #[.pointer (some ⟨w.heap.size, 0, none⟩)]) ∧ w.alloc (.cells #[.pointer (some ⟨B, 0, none⟩)] 134) = w' := by
  go_enter Try.func107, Try.ntmps107
  go_wp2
  go_ret
  exact ⟨rfl, rfl⟩

set_option maxHeartbeats 4000000 in
theorem fields1_in (n l B Bb : Nat) (F : Nat → Prop) (W : World) (hBb : W.cell? ⟨Bb, 0, none⟩ = some (.pointer (some ⟨B, 0, none⟩))) (hF : ∀ k, F k → k < W.heap.size)
    (J Jx : List Nat → World → Prop) (hJ : AbidesFrom W.heap.size J)
    (hY : ∀ pre x W1, J pre W1 → pre.length < 12 → x < 12 → YieldAt Fence.wide (n - 1) Try.prog l #[.pointer (some ⟨B, foff x, none⟩), .int .i64 (fsz x : Nat)] W1 fun e W' =>
      (e = .returned (.bool true) ∧ J (pre ++ [x]) W' ∧ KpC F W1 W') ∨ (e = .returned (.bool false) ∧ Jx (pre ++ [x]) W')) (h0 : J [] W) :
    CallsIn Fence.wide n Try.prog 128 #[.func (.yield l) #[] #[], .pointer (some ⟨Bb, 0, none⟩)] W fun e W' => (∃ v, e = .returned v) ∧
      ((∃ ys, ys = List.range 12 ∧ J ys W') ∨ (∃ pre, True ∧ Jx pre W')) := by
  obtain ⟨i0, hi, hz0, hz1, hz2⟩ := info_parts infoPtr
  have hBl : Bb < W.heap.size := World.block_lt_of_cell? W _ hBb
  have HY := Lib.hid hY
  have HF := Lib.hid hF
  have HJ := Lib.hid hJ
  have HJ0 := Lib.hid h0
  clear hY hF hJ h0
  refine callsIn_of_wp Try.func128 rfl trivial ?_ rfl
  simp only [Try.ntmps128, List.size_toArray, List.length_cons, List.length_nil, Nat.reduceAdd, Nat.reduceSub, Array.replicate_succ, Array.replicate_zero, List.push_toArray, List.append_toArray, List.nil_append, List.cons_append]
  gi_wp2
  refine wpIn_wide.2 ?_
  go_region_held3 (fun w' => w'.cell? ⟨Bb, 0, none⟩ = some (.pointer (some ⟨B, 0, none⟩)) ∧ Below W.heap.size W w') (first | exact ⟨by simp [hBb], (Below.refl _ _).drew⟩ | exact ⟨cell_keep hBb ((Below.refl _ _).alloc (Nat.le_refl _) _).drew, ((Below.refl _ _).alloc (Nat.le_refl _) _).drew⟩ | (go_split_ands; exact ⟨by assumption, by assumption⟩)) (fail)
  have hown0 : (W.alloc (.cells #[.pointer (some ⟨B, 0, none⟩), .pointer (some ⟨B, 2, none⟩), .pointer (some ⟨B, 1, none⟩), .pointer (some ⟨B, 3, none⟩)] 135)).drew.ownsRow W.heap.size 135 1 (.slice (some ⟨W.heap.size, 0, none⟩) 4 4) 4 (fptrs B 4) :=
    ⟨rfl, .inr ⟨W.heap.size, 4, _, rfl, Nat.le_refl _, blk_new W _, Nat.le_refl _, by simp [maxLen], rfl, rfl⟩⟩
  have hB0 : Below W.heap.size W (W.alloc (.cells #[.pointer (some ⟨B, 0, none⟩), .pointer (some ⟨B, 2, none⟩), .pointer (some ⟨B, 1, none⟩), .pointer (some ⟨B, 3, none⟩)] 135)).drew := ((Below.refl _ _).alloc (Nat.le_refl _) _).drew
  generalize (W.alloc (.cells #[.pointer (some ⟨B, 0, none⟩), .pointer (some ⟨B, 2, none⟩), .pointer (some ⟨B, 1, none⟩), .pointer (some ⟨B, 3, none⟩)] 135)).drew = W1 at hown0 hB0 ⊢
  rename_i hheld
  clear hheld
  gi_wp2
  gi_loopw [3, 21] (fun v i wr => ∃ k : Nat, k ≤ 6 ∧ i = .int .i64 k ∧ wr.ownsRow W.heap.size 135 1 v (4 + k) (fptrs B (4 + k)) ∧ Below W.heap.size W wr) (fun _ i _ => 6 - (intOf i).toNat)
  case atStart => exact ⟨0, by omega, rfl, hown0, hB0⟩
  case round =>
    obtain ⟨k, hk, rfl, hown, hB⟩ := hrel
    have hcb := cell_keep hBb hB
    have hsz := hB.size
    by_cases hlt : k < 6
    · have hk0 : (0 : Int) ≤ (k : Int) := by omega
      have hk6 : (k : Int) < 6 := by omega
      gi_wp2_with (gi_at_builtin; refine wpListIn_append_own _ rfl _ _ 151 rfl W.heap.size 135 i0 (.pointer none) 1 8 Try.underlying151 hi hz0 hz1 hz2 rfl (by decide) _ _ _ rfl (hown.alloc _) ⟨wr.heap.size, 0, none⟩ 1 1 [.pointer (some ⟨B, 4 + k, none⟩)] rfl rfl (cell_one_new _ _ _) (by simp [Value.oneCell']) (by simp only [maxLen]; omega) (by omega) (by simp; omega) ?_; intro v' w1 hown' hgrow _)
      refine ⟨⟨k + 1, by omega, by go_num, ?_, (hB.alloc hsz _).grown hgrow (by simp; omega) (fun q e => (hown.lt q e).1)⟩, by simp only [intOf]; omega⟩
      rw [show 4 + (k + 1) = 4 + k + 1 from by omega, fptrs_succ, foff_big (4 + k) (by omega)]
      exact hown'
    · obtain rfl : k = 6 := by omega
      gi_wp2
      refine wpIn_wide.2 ?_
      go_region_held3 (fun w' => w'.cell? ⟨Bb, 0, none⟩ = some (.pointer (some ⟨B, 0, none⟩)) ∧ Below W.heap.size W w')
        (first | exact ⟨by simp [hcb], hB.drew⟩ | exact ⟨cell_keep hcb ((Below.refl _ _).alloc (Nat.le_refl _) _).drew, (hB.alloc hsz _).drew⟩ | exact ⟨cell_keep hBb hB6, hB6⟩)
        (first | (refine step_append_lies _ (by rfl) _ _ _ (by rfl) W.heap.size 135 i0 _ 1 8 Try.underlying151 hi hz0 hz1 hz2 rfl (by omega) u3 (4 + 6) (fptrs B (4 + 6)) (by rfl) ((hown.alloc _).drew) ⟨wr.heap.size, 0, none⟩ 2 2 [.pointer (some ⟨B, 10, none⟩), .pointer (some ⟨B, 11, none⟩)] (by rfl) (by rfl) (World.news_of_block (cs := #[.pointer (some ⟨B, 10, none⟩), .pointer (some ⟨B, 11, none⟩)]) (t := 135) (fr := (0, 0)) (heap_alloc_new wr _)) (by simp [Value.oneCell']) (by omega) (by simp [maxLen]) (by omega) (by simp; omega) (wr.heap.size + 1) (by simp) ?_; intro gg cap w6 hown6 hgrow hat hlt6; have hB6 : Below W.heap.size W w6 := ((hB.alloc hsz _).drew).grown hgrow (by simp; omega) (fun q e => (hown.lt q e).1)))
      have hown7 : w6.ownsRow W.heap.size 135 1 (.slice (some ⟨gg, 0, none⟩) 12 cap) 12 (fptrs B 12) := hown6
      have hgg : W.heap.size ≤ gg := (hown7.lt gg rfl).1
      obtain ⟨cur, hcur⟩ : ∃ cur, w6.heap[gg]? = some (.cells cur 135 (0, 0)) ∧ cur.toList.take 12 = fptrs B 12 := by
        rcases hown7.2 with ⟨h, _⟩ | ⟨g, cap', cur, hv, _, hh, _, _, _, ht⟩
        · cases h
        · injection hv with h1 h2 h3
          injection h1 with h1
          injection h1 with h1
          subst h1
          exact ⟨cur, hh, by simpa using ht⟩
      rename_i hheld
      clear hheld hown hown6 hown7 hown0 hgrow hat
      simp only [Nat.reduceAdd]
      have hJ6 : J [] w6 := HJ.out [] W w6 none HJ0.out ⟨hB6.os, hB6.tape, hB6.output, hB6.size, fun q hq _ => hB6.block q hq⟩ (fun r e => by cases e)
      obtain ⟨hcur, hcut⟩ := hcur
      have HC := Lib.hid hcur
      have HT := Lib.hid hcut
      have HJ6 := Lib.hid hJ6
      clear hcur hcut hJ6
      gi_wp2
      gi_loopw [43] (fun i wr => ∃ k : Nat, k ≤ 12 ∧ i = .int .i64 k ∧ Hid (J (List.range k) wr) ∧ wr.heap[gg]? = some (.cells cur 135 (0, 0))) (fun i _ => 12 - (intOf i).toNat)
      case atStart => exact ⟨0, by omega, rfl, HJ6.out, HC.out⟩
      case round =>
        obtain ⟨k, hk, rfl, hJk, hblk⟩ := hrel
        by_cases hlt : k < 12
        · have hck : wr.cell? ⟨gg, k, none⟩ = some (.pointer (some ⟨B, foff k, none⟩)) := by
            have h1 : (cur.toList.take 12)[k]? = some (.pointer (some ⟨B, foff k, none⟩)) := by rw [HT.out, fptrs_get _ _ _ hlt]
            rw [List.getElem?_take, if_pos hlt] at h1
            simp only [World.cell?, hblk]
            simpa using h1
          have HB := Lib.hid hblk
          obtain ⟨fn, tmps, assign, body, hy, hR⟩ := HY.out (List.range k) k wr hJk.out (by simpa using hlt) hlt
          clear hblk
          have hend : ∀ (W' : World), (J (List.range k ++ [k]) W' ∧ KpC F wr W') → J (List.range (k + 1)) W' ∧ W'.heap[gg]? = some (.cells cur 135 (0, 0)) := by
            intro W' ⟨h1, h2⟩
            exact ⟨by rw [List.range_succ]; exact h1, h2 _ _ _ _ HB.out (fun hf => by have := HF.out _ hf; omega)⟩
          have HE := Lib.hid hend
          clear hend
          by_cases h2 : k < 2
          · rw [show ((fsz k : Nat) : Int) = 1 from by simp [fsz, h2]] at hy
            have h3 : ((k : Int) == 3) = false := by rw [beq_eq_false_iff_ne]; omega
            gi_wp2
            refine ⟨fun h => by simp [Fence.wide] at h, hR.mono ?_⟩
            rintro e W3 (⟨rfl, hJ3, hk3⟩ | ⟨rfl, hJx3⟩)
            · obtain ⟨e1, e2⟩ := HE.out _ ⟨hJ3, hk3⟩
              clear hk3 hJ3
              have E2 := Lib.hid e2
              clear e2
              gi_wp2
              refine ⟨⟨k + 1, by omega, by go_num, e1, E2.out⟩, by simp only [intOf]; omega⟩
            · gi_wp2
              refine bodyPost_ret (results_none rfl _ _ _) rfl ?_
              exact ⟨⟨_, rfl⟩, .inr ⟨_, trivial, hJx3⟩⟩
          · by_cases h4 : k = 3
            · subst h4
              rw [show ((fsz 3 : Nat) : Int) = 4 from rfl] at hy
              gi_wp2
              refine ⟨fun h => by simp [Fence.wide] at h, hR.mono ?_⟩
              rintro e W3 (⟨rfl, hJ3, hk3⟩ | ⟨rfl, hJx3⟩)
              · obtain ⟨e1, e2⟩ := HE.out _ ⟨hJ3, hk3⟩
                clear hk3 hJ3
                have E2 := Lib.hid e2
                clear e2
                gi_wp2
                refine ⟨⟨4, by omega, by go_num, e1, E2.out⟩, by simp only [intOf]; omega⟩
              · gi_wp2
                refine bodyPost_ret (results_none rfl _ _ _) rfl ?_
                exact ⟨⟨_, rfl⟩, .inr ⟨_, trivial, hJx3⟩⟩
            · rw [show ((fsz k : Nat) : Int) = 2 from by simp [fsz, h2, h4]] at hy
              have h3 : ((k : Int) == 3) = false := by rw [beq_eq_false_iff_ne]; omega
              have h2' : (2 : Int) ≤ (k : Int) := by omega
              gi_wp2
              refine ⟨fun h => by simp [Fence.wide] at h, hR.mono ?_⟩
              rintro e W3 (⟨rfl, hJ3, hk3⟩ | ⟨rfl, hJx3⟩)
              · obtain ⟨e1, e2⟩ := HE.out _ ⟨hJ3, hk3⟩
                clear hk3 hJ3
                have E2 := Lib.hid e2
                clear e2
                gi_wp2
                refine ⟨⟨k + 1, by omega, by go_num, e1, E2.out⟩, by simp only [intOf]; omega⟩
              · gi_wp2
                refine bodyPost_ret (results_none rfl _ _ _) rfl ?_
                exact ⟨⟨_, rfl⟩, .inr ⟨_, trivial, hJx3⟩⟩
        · obtain rfl : k = 12 := by omega
          gi_wp2
          go_end0
          exact ⟨⟨_, rfl⟩, .inl ⟨_, rfl, hJk.out⟩⟩

theorem fields_stops (n B Bb : Nat) (F : Nat → Prop) (w : World) (hBb : w.cell? ⟨Bb, 0, none⟩ = some (.pointer (some ⟨B, 0, none⟩))) (hF : ∀ k, F k → k < w.heap.size) :
    SeqStopsK Fence.wide n Try.prog 128 #[.pointer (some ⟨Bb, 0, none⟩)] (fun k : Fin 12 => #[.pointer (some ⟨B, foff k, none⟩), .int .i64 (fsz k : Nat)]) (KpC F) (fun xs => xs = List.finRange 12) (fun _ => True) 12 w := by
  intro l J Jx W hW hJ hJx hY h0
  refine (fields1_in n l B Bb F W (cell_keep hBb hW) (fun k hk => Nat.lt_of_lt_of_le (hF k hk) hW.size) (fun xs W => ∃ ys : List (Fin 12), ys.map (fun k => k.val) = xs ∧ J ys W) (fun xs W => ∃ ys : List (Fin 12), ys.map (fun k => k.val) = xs ∧ Jx ys W)
    (fun s A B row hs hg hr => by
      obtain ⟨ys, e, hj⟩ := hs
      exact ⟨ys, e, hJ ys A B row hj hg hr⟩) ?_ ⟨[], rfl, h0⟩).mono ?_
  · rintro pre x W1 ⟨ys, rfl, hj⟩ hlen hx
    obtain ⟨fn, tmps, assign, body, hy, hR⟩ := hY ys ⟨x, hx⟩ W1 hj (by simpa using hlen)
    refine ⟨fn, tmps, assign, body, hy, hR.mono ?_⟩
    rintro e W' (⟨he, h1, h2⟩ | ⟨he, h1⟩)
    · exact .inl ⟨he, ⟨ys ++ [⟨x, hx⟩], by simp, h1⟩, h2⟩
    · exact .inr ⟨he, ys ++ [⟨x, hx⟩], by simp, h1⟩
  · rintro e W' ⟨he, ⟨ys, rfl, zs, hz, hj⟩ | ⟨pre, _, zs, hz, hj⟩⟩
    · refine ⟨he, .inl ⟨zs, ?_, hj⟩⟩
      apply List.map_inj_right (f := fun k : Fin 12 => k.val) (fun a b h => Fin.ext h) |>.1
      rw [hz]; rfl
    · exact ⟨he, .inr ⟨zs, trivial, hj⟩⟩
end Go.Proofs.Ytacdohlhalnioaa

/- Joined: XI1 XI2 XI3 XG1 XG2 XG3 XG4. -/
import Derived.Test.YtacdohlhalnioaaJ2
import Derived.Test.YtacdohlhalnioaaJ1
import Derived.Deep.AppendLies
import Derived.Maps.AppendAt
import Derived.Lib.BufferWrite
import Derived.OwnWalk
/- The fields of an inode, one by one: the iterator's contract. -/
section
set_option linter.unusedSimpArgs false
set_option linter.unusedVariables false
set_option maxRecDepth 20000
namespace Go.Proofs.Ytacdohlhalnioaa
open Go.RowKit Go.Shelf
attribute [local go_sem] Oper.semAt_some

/-- Where the k-th field stands in memory, and how many bytes it has. -/
def foff (k : Nat) : Nat := if k = 1 then 2 else if k = 2 then 1 else k
def fsz (k : Nat) : Nat := if k < 2 then 1 else if k = 3 then 4 else 2
def fptrs (B m : Nat) : List Value := (List.range m).map fun k => Value.pointer (some ⟨B, foff k, none⟩)
theorem fptrs_length (B m : Nat) : (fptrs B m).length = m := by simp [fptrs]
theorem fptrs_succ (B m : Nat) : fptrs B (m + 1) = fptrs B m ++ [.pointer (some ⟨B, foff m, none⟩)] := by simp [fptrs, List.range_succ]
theorem fptrs_get (B m k : Nat) (h : k < m) : (fptrs B m)[k]? = some (.pointer (some ⟨B, foff k, none⟩)) := by simp [fptrs, h]
theorem foff_big (k : Nat) (h : 3 ≤ k) : foff k = k := by unfold foff; rw [if_neg (by omega), if_neg (by omega)]
theorem infoPtr : (Try.prog.info? 135).map (fun i => (i.zero, i.size, i.bytes)) = some (some (.pointer none), 1, 8) := by kernel_rfl

set_option maxHeartbeats 400000 in
theorem fields_ok (B : Nat) (w : World) :
    Calls Try.prog 107 #[.pointer (some ⟨B, 0, none⟩)] w fun e w' => e = .returned (.func (.func 128) #[] #[.pointer (some ⟨w.heap.size, 0, none⟩)]) ∧ w.alloc (.cells #[.pointer (some ⟨B, 0, none⟩)] 134) = w' := by
  go_enter Try.func107, Try.ntmps107
  go_wp2
  go_ret
  exact ⟨rfl, rfl⟩

set_option maxHeartbeats 4000000 in
theorem fields1_in (n l B Bb : Nat) (F : Nat → Prop) (W : World) (hBb : W.cell? ⟨Bb, 0, none⟩ = some (.pointer (some ⟨B, 0, none⟩))) (hF : ∀ k, F k → k < W.heap.size)
    (J Jx : List Nat → World → Prop) (hJ : AbidesFrom W.heap.size J)
    (hY : ∀ pre x W1, J pre W1 → pre.length < 12 → x < 12 → YieldAt Fence.wide (n - 1) Try.prog l #[.pointer (some ⟨B, foff x, none⟩), .int .i64 (fsz x : Nat)] W1 fun e W' =>
      (e = .returned (.bool true) ∧ J (pre ++ [x]) W' ∧ KpC F W1 W') ∨ (e = .returned (.bool false) ∧ Jx (pre ++ [x]) W')) (h0 : J [] W) :
    CallsIn Fence.wide n Try.prog 128 #[.func (.yield l) #[] #[], .pointer (some ⟨Bb, 0, none⟩)] W fun e W' => (∃ v, e = .returned v) ∧
      ((∃ ys, ys = List.range 12 ∧ J ys W') ∨ (∃ pre, True ∧ Jx pre W')) := by
  obtain ⟨i0, hi, hz0, hz1, hz2⟩ := info_parts infoPtr
  have hBl : Bb < W.heap.size := World.block_lt_of_cell? W _ hBb
  have HY := Lib.hid hY
  have HF := Lib.hid hF
  have HJ := Lib.hid hJ
  have HJ0 := Lib.hid h0
  clear hY hF hJ h0
  refine callsIn_of_wp Try.func128 rfl trivial ?_ rfl
  simp only [Try.ntmps128, List.size_toArray, List.length_cons, List.length_nil, Nat.reduceAdd, Nat.reduceSub, Array.replicate_succ, Array.replicate_zero, List.push_toArray, List.append_toArray, List.nil_append, List.cons_append]
  gi_wp2
  refine wpIn_wide.2 ?_
  go_region_held3 (fun w' => w'.cell? ⟨Bb, 0, none⟩ = some (.pointer (some ⟨B, 0, none⟩)) ∧ Below W.heap.size W w') (first | exact ⟨by simp [hBb], (Below.refl _ _).drew⟩ | exact ⟨cell_keep hBb ((Below.refl _ _).alloc (Nat.le_refl _) _).drew, ((Below.refl _ _).alloc (Nat.le_refl _) _).drew⟩ | (go_split_ands; exact ⟨by assumption, by assumption⟩)) (fail)
  have hown0 : (W.alloc (.cells #[.pointer (some ⟨B, 0, none⟩), .pointer (some ⟨B, 2, none⟩), .pointer (some ⟨B, 1, none⟩), .pointer (some ⟨B, 3, none⟩)] 135)).drew.ownsRow W.heap.size 135 1 (.slice (some ⟨W.heap.size, 0, none⟩) 4 4) 4 (fptrs B 4) :=
    ⟨rfl, .inr ⟨W.heap.size, 4, _, rfl, Nat.le_refl _, blk_new W _, Nat.le_refl _, by simp [maxLen], rfl, rfl⟩⟩
  have hB0 : Below W.heap.size W (W.alloc (.cells #[.pointer (some ⟨B, 0, none⟩), .pointer (some ⟨B, 2, none⟩), .pointer (some ⟨B, 1, none⟩), .pointer (some ⟨B, 3, none⟩)] 135)).drew := ((Below.refl _ _).alloc (Nat.le_refl _) _).drew
  generalize (W.alloc (.cells #[.pointer (some ⟨B, 0, none⟩), .pointer (some ⟨B, 2, none⟩), .pointer (some ⟨B, 1, none⟩), .pointer (some ⟨B, 3, none⟩)] 135)).drew = W1 at hown0 hB0 ⊢
  rename_i hheld
  clear hheld
  gi_wp2
  gi_loopw [3, 21] (fun v i wr => ∃ k : Nat, k ≤ 6 ∧ i = .int .i64 k ∧ wr.ownsRow W.heap.size 135 1 v (4 + k) (fptrs B (4 + k)) ∧ Below W.heap.size W wr) (fun _ i _ => 6 - (intOf i).toNat)
  case atStart => exact ⟨0, by omega, rfl, hown0, hB0⟩
  case round =>
    obtain ⟨k, hk, rfl, hown, hB⟩ := hrel
    have hcb := cell_keep hBb hB
    have hsz := hB.size
    by_cases hlt : k < 6
    · have hk0 : (0 : Int) ≤ (k : Int) := by omega
      have hk6 : (k : Int) < 6 := by omega
      gi_wp2_with (gi_at_builtin; refine wpListIn_append_own _ rfl _ _ 151 rfl W.heap.size 135 i0 (.pointer none) 1 8 Try.underlying151 hi hz0 hz1 hz2 rfl (by decide) _ _ _ rfl (hown.alloc _) ⟨wr.heap.size, 0, none⟩ 1 1 [.pointer (some ⟨B, 4 + k, none⟩)] rfl rfl (cell_one_new _ _ _) (by simp [Value.oneCell']) (by simp only [maxLen]; omega) (by omega) (by simp; omega) ?_; intro v' w1 hown' hgrow _)
      refine ⟨⟨k + 1, by omega, by go_num, ?_, (hB.alloc hsz _).grown hgrow (by simp; omega) (fun q e => (hown.lt q e).1)⟩, by simp only [intOf]; omega⟩
      rw [show 4 + (k + 1) = 4 + k + 1 from by omega, fptrs_succ, foff_big (4 + k) (by omega)]
      exact hown'
    · obtain rfl : k = 6 := by omega
      gi_wp2
      refine wpIn_wide.2 ?_
      go_region_held3 (fun w' => w'.cell? ⟨Bb, 0, none⟩ = some (.pointer (some ⟨B, 0, none⟩)) ∧ Below W.heap.size W w')
        (first | exact ⟨by simp [hcb], hB.drew⟩ | exact ⟨cell_keep hcb ((Below.refl _ _).alloc (Nat.le_refl _) _).drew, (hB.alloc hsz _).drew⟩ | exact ⟨cell_keep hBb hB6, hB6⟩)
        (first | (refine step_append_lies _ (by rfl) _ _ _ (by rfl) W.heap.size 135 i0 _ 1 8 Try.underlying151 hi hz0 hz1 hz2 rfl (by omega) u3 (4 + 6) (fptrs B (4 + 6)) (by rfl) ((hown.alloc _).drew) ⟨wr.heap.size, 0, none⟩ 2 2 [.pointer (some ⟨B, 10, none⟩), .pointer (some ⟨B, 11, none⟩)] (by rfl) (by rfl) (World.news_of_block (cs := #[.pointer (some ⟨B, 10, none⟩), .pointer (some ⟨B, 11, none⟩)]) (t := 135) (fr := (0, 0)) (heap_alloc_new wr _)) (by simp [Value.oneCell']) (by omega) (by simp [maxLen]) (by omega) (by simp; omega) (wr.heap.size + 1) (by simp) ?_; intro gg cap w6 hown6 hgrow hat hlt6; have hB6 : Below W.heap.size W w6 := ((hB.alloc hsz _).drew).grown hgrow (by simp; omega) (fun q e => (hown.lt q e).1)))
      have hown7 : w6.ownsRow W.heap.size 135 1 (.slice (some ⟨gg, 0, none⟩) 12 cap) 12 (fptrs B 12) := hown6
      have hgg : W.heap.size ≤ gg := (hown7.lt gg rfl).1
      obtain ⟨cur, hcur⟩ : ∃ cur, w6.heap[gg]? = some (.cells cur 135 (0, 0)) ∧ cur.toList.take 12 = fptrs B 12 := by
        rcases hown7.2 with ⟨h, _⟩ | ⟨g, cap', cur, hv, _, hh, _, _, _, ht⟩
        · cases h
        · injection hv with h1 h2 h3
          injection h1 with h1
          injection h1 with h1
          subst h1
          exact ⟨cur, hh, by simpa using ht⟩
      rename_i hheld
      clear hheld hown hown6 hown7 hown0 hgrow hat
      simp only [Nat.reduceAdd]
      have hJ6 : J [] w6 := HJ.out [] W w6 none HJ0.out ⟨hB6.os, hB6.tape, hB6.output, hB6.size, fun q hq _ => hB6.block q hq⟩ (fun r e => by cases e)
      obtain ⟨hcur, hcut⟩ := hcur
      have HC := Lib.hid hcur
      have HT := Lib.hid hcut
      have HJ6 := Lib.hid hJ6
      clear hcur hcut hJ6
      gi_wp2
      gi_loopw [43] (fun i wr => ∃ k : Nat, k ≤ 12 ∧ i = .int .i64 k ∧ Hid (J (List.range k) wr) ∧ wr.heap[gg]? = some (.cells cur 135 (0, 0))) (fun i _ => 12 - (intOf i).toNat)
      case atStart => exact ⟨0, by omega, rfl, HJ6.out, HC.out⟩
      case round =>
        obtain ⟨k, hk, rfl, hJk, hblk⟩ := hrel
        by_cases hlt : k < 12
        · have hck : wr.cell? ⟨gg, k, none⟩ = some (.pointer (some ⟨B, foff k, none⟩)) := by
            have h1 : (cur.toList.take 12)[k]? = some (.pointer (some ⟨B, foff k, none⟩)) := by rw [HT.out, fptrs_get _ _ _ hlt]
            rw [List.getElem?_take, if_pos hlt] at h1
            simp only [World.cell?, hblk]
            simpa using h1
          have HB := Lib.hid hblk
          obtain ⟨fn, tmps, assign, body, hy, hR⟩ := HY.out (List.range k) k wr hJk.out (by simpa using hlt) hlt
          clear hblk
          have hend : ∀ (W' : World), (J (List.range k ++ [k]) W' ∧ KpC F wr W') → J (List.range (k + 1)) W' ∧ W'.heap[gg]? = some (.cells cur 135 (0, 0)) := by
            intro W' ⟨h1, h2⟩
            exact ⟨by rw [List.range_succ]; exact h1, h2 _ _ _ _ HB.out (fun hf => by have := HF.out _ hf; omega)⟩
          have HE := Lib.hid hend
          clear hend
          by_cases h2 : k < 2
          · rw [show ((fsz k : Nat) : Int) = 1 from by simp [fsz, h2]] at hy
            have h3 : ((k : Int) == 3) = false := by rw [beq_eq_false_iff_ne]; omega
            gi_wp2
            refine ⟨fun h => by simp [Fence.wide] at h, hR.mono ?_⟩
            rintro e W3 (⟨rfl, hJ3, hk3⟩ | ⟨rfl, hJx3⟩)
            · obtain ⟨e1, e2⟩ := HE.out _ ⟨hJ3, hk3⟩
              clear hk3 hJ3
              have E2 := Lib.hid e2
              clear e2
              gi_wp2
              refine ⟨⟨k + 1, by omega, by go_num, e1, E2.out⟩, by simp only [intOf]; omega⟩
            · gi_wp2
              refine bodyPost_ret (results_none rfl _ _ _) rfl ?_
              exact ⟨⟨_, rfl⟩, .inr ⟨_, trivial, hJx3⟩⟩
          · by_cases h4 : k = 3
            · subst h4
              rw [show ((fsz 3 : Nat) : Int) = 4 from rfl] at hy
              gi_wp2
              refine ⟨fun h => by simp [Fence.wide] at h, hR.mono ?_⟩
              rintro e W3 (⟨rfl, hJ3, hk3⟩ | ⟨rfl, hJx3⟩)
              · obtain ⟨e1, e2⟩ := HE.out _ ⟨hJ3, hk3⟩
                clear hk3 hJ3
                have E2 := Lib.hid e2
                clear e2
                gi_wp2
                refine ⟨⟨4, by omega, by go_num, e1, E2.out⟩, by simp only [intOf]; omega⟩
              · gi_wp2
                refine bodyPost_ret (results_none rfl _ _ _) rfl ?_
                exact ⟨⟨_, rfl⟩, .inr ⟨_, trivial, hJx3⟩⟩
            · rw [show ((fsz k : Nat) : Int) = 2 from by simp [fsz, h2, h4]] at hy
              have h3 : ((k : Int) == 3) = false := by rw [beq_eq_false_iff_ne]; omega
              have h2' : (2 : Int) ≤ (k : Int) := by omega
              gi_wp2
              refine ⟨fun h => by simp [Fence.wide] at h, hR.mono ?_⟩
              rintro e W3 (⟨rfl, hJ3, hk3⟩ | ⟨rfl, hJx3⟩)
              · obtain ⟨e1, e2⟩ := HE.out _ ⟨hJ3, hk3⟩
                clear hk3 hJ3
                have E2 := Lib.hid e2
                clear e2
                gi_wp2
                refine ⟨⟨k + 1, by omega, by go_num, e1, E2.out⟩, by simp only [intOf]; omega⟩
              · gi_wp2
                refine bodyPost_ret (results_none rfl _ _ _) rfl ?_
                exact ⟨⟨_, rfl⟩, .inr ⟨_, trivial, hJx3⟩⟩
        · obtain rfl : k = 12 := by omega
          gi_wp2
          go_end0
          exact ⟨⟨_, rfl⟩, .inl ⟨_, rfl, hJk.out⟩⟩

theorem fields_stops (n B Bb : Nat) (F : Nat → Prop) (w : World) (hBb : w.cell? ⟨Bb, 0, none⟩ = some (.pointer (some ⟨B, 0, none⟩))) (hF : ∀ k, F k → k < w.heap.size) :
    SeqStopsK Fence.wide n Try.prog 128 #[.pointer (some ⟨Bb, 0, none⟩)] (fun k : Fin 12 => #[.pointer (some ⟨B, foff k, none⟩), .int .i64 (fsz k : Nat)]) (KpC F) (fun xs => xs = List.finRange 12) (fun _ => True) 12 w := by
  intro l J Jx W hW hJ hJx hY h0
  refine (fields1_in n l B Bb F W (cell_keep hBb hW) (fun k hk => Nat.lt_of_lt_of_le (hF k hk) hW.size) (fun xs W => ∃ ys : List (Fin 12), ys.map (fun k => k.val) = xs ∧ J ys W) (fun xs W => ∃ ys : List (Fin 12), ys.map (fun k => k.val) = xs ∧ Jx ys W)
    (fun s A B row hs hg hr => by
      obtain ⟨ys, e, hj⟩ := hs
      exact ⟨ys, e, hJ ys A B row hj hg hr⟩) ?_ ⟨[], rfl, h0⟩).mono ?_
  · rintro pre x W1 ⟨ys, rfl, hj⟩ hlen hx
    obtain ⟨fn, tmps, assign, body, hy, hR⟩ := hY ys ⟨x, hx⟩ W1 hj (by simpa using hlen)
    refine ⟨fn, tmps, assign, body, hy, hR.mono ?_⟩
    rintro e W' (⟨he, h1, h2⟩ | ⟨he, h1⟩)
    · exact .inl ⟨he, ⟨ys ++ [⟨x, hx⟩], by simp, h1⟩, h2⟩
    · exact .inr ⟨he, ys ++ [⟨x, hx⟩], by simp, h1⟩
  · rintro e W' ⟨he, ⟨ys, rfl, zs, hz, hj⟩ | ⟨pre, _, zs, hz, hj⟩⟩
    · refine ⟨he, .inl ⟨zs, ?_, hj⟩⟩
      apply List.map_inj_right (f := fun k : Fin 12 => k.val) (fun a b h => Fin.ext h) |>.1
      rw [hz]; rfl
    · exact ⟨he, .inr ⟨zs, trivial, hj⟩⟩
end Go.Proofs.Ytacdohlhalnioaa
end

/- An inode's bytes, and an inode of bytes (the program's). -/
section
set_option linter.unusedSimpArgs false
set_option linter.unusedVariables false
set_option maxRecDepth 20000
namespace Go.Proofs.Ytacdohlhalnioaa
open Go.RowKit Go.Shelf
attribute [local go_sem] Oper.semAt_some

/-- Numbers as cells. -/
def xcells (l : List Nat) : Array Value := (l.map fun (n : Nat) => Value.int .i64 (n : Int)).toArray
theorem xcells_set (l : List Nat) (i n : Nat) : (xcells l).setIfInBounds i (.int .i64 (n : Int)) = xcells (l.set i n) := by
  simp [xcells, List.map_set]
theorem xcells_get (l : List Nat) (i : Nat) (h : i < l.length) : (xcells l)[i]? = some (.int .i64 ((l.getD i 0 : Nat) : Int)) := by
  simp [xcells, h]
/-- One field more is read. -/
def fstep (st : List Nat × Blk) (k : Nat) : List Nat × Blk := (st.1.set (foff k) (le (st.2.take (fsz k))), st.2.drop (fsz k))
def fst_ (s : Blk) (pre : List (Fin 12)) : List Nat × Blk := (pre.map fun k => k.val).foldl fstep (List.replicate 12 0, s)
theorem fst_snoc (s : Blk) (pre : List (Fin 12)) (k : Fin 12) : fst_ s (pre ++ [k]) = fstep (fst_ s pre) k := by simp [fst_]
theorem fold_len (pre : List Nat) : ∀ st : List Nat × Blk, (pre.foldl fstep st).1.length = st.1.length := by
  induction pre with
  | nil => intro st; rfl
  | cons k pre ih => intro st; rw [List.foldl_cons, ih]; simp [fstep]
theorem fst_len (s : Blk) (pre : List (Fin 12)) : (fst_ s pre).1.length = 12 := by rw [fst_, fold_len]; rfl
theorem fsz_le (k : Nat) : fsz k ≤ 4 := by unfold fsz; split <;> (try split) <;> omega
theorem foff_lt (k : Fin 12) : foff k < 12 := by
  have := k.isLt
  unfold foff; split <;> (try split) <;> omega
theorem fold_rest (pre : List Nat) : ∀ st : List Nat × Blk, st.2.length ≤ (pre.foldl fstep st).2.length + 4 * pre.length := by
  induction pre with
  | nil => intro st; simp
  | cons k pre ih =>
    intro st
    rw [List.foldl_cons]
    have h := ih (fstep st k)
    have := fsz_le k
    simp only [fstep, List.length_drop, List.length_cons] at h ⊢
    omega
theorem fst_rest (s : Blk) (pre : List (Fin 12)) : s.length ≤ (fst_ s pre).2.length + 4 * pre.length := by
  have := fold_rest (pre.map fun k => k.val) (List.replicate 12 0, s)
  simpa [fst_] using this
/-- What an inode holds. -/
structure Ino where
  kind : Nat
  links : Nat
  owner : Nat
  size : Nat
  d0 : Nat
  d1 : Nat
  d2 : Nat
  d3 : Nat
  d4 : Nat
  d5 : Nat
  ind : Nat
  ext : Nat
  deriving DecidableEq
def Ino.list (x : Ino) : List Nat := [x.kind, x.links, x.owner, x.size, x.d0, x.d1, x.d2, x.d3, x.d4, x.d5, x.ind, x.ext]
/-- The inode of bytes. -/
def inoOf (s : Blk) : Ino := { kind := gb s 0, owner := gb s 1, links := w2 s 2, size := w2 s 4 + 65536 * w2 s 6, d0 := w2 s 8, d1 := w2 s 10, d2 := w2 s 12, d3 := w2 s 14, d4 := w2 s 16, d5 := w2 s 18, ind := w2 s 20, ext := w2 s 22 }
theorem fst_all (s : Blk) (h : s.length = 64) : (fst_ s (List.finRange 12)).1 = (inoOf s).list := by
  have e : (List.finRange 12).map (fun k => k.val) = [0, 1, 2, 3, 4, 5, 6, 7, 8, 9, 10, 11] := by decide
  obtain ⟨s0, s1, s2, s3, s4, s5, s6, s7, s8, s9, s10, s11, s12, s13, s14, s15, s16, s17, s18, s19, s20, s21, s22, s23, r, rfl⟩ : ∃ s0 s1 s2 s3 s4 s5 s6 s7 s8 s9 s10 s11 s12 s13 s14 s15 s16 s17 s18 s19 s20 s21 s22 s23 r, s = s0 :: s1 :: s2 :: s3 :: s4 :: s5 :: s6 :: s7 :: s8 :: s9 :: s10 :: s11 :: s12 :: s13 :: s14 :: s15 :: s16 :: s17 :: s18 :: s19 :: s20 :: s21 :: s22 :: s23 :: r := by
    iterate 24 (rcases s with _ | ⟨_, s⟩; · (simp at h; try omega))
    exact ⟨_, _, _, _, _, _, _, _, _, _, _, _, _, _, _, _, _, _, _, _, _, _, _, _, _, rfl⟩
  rw [fst_, e]
  simp [fstep, foff, fsz, le, Ino.list, inoOf, gb, w2]
  omega

set_option maxHeartbeats 2000000 in
theorem iof_ok (s : Blk) (w : World) (hs : s.length = 64) :
    Calls Try.prog 73 #[.string (mk s)] w fun e w' => e = .returned (.agg (xcells (inoOf s).list)) ∧ Below w.heap.size w w' := by
  refine callsIn_wide.1 (callsIn_of_wp_marks (n := 3) Try.func73 rfl trivial (wpIn_wide.2 ?_) rfl)
  simp only [Try.ntmps73, List.size_toArray, List.length_cons, List.length_nil, Nat.reduceAdd, Nat.reduceSub, Array.replicate_succ, Array.replicate_zero, List.push_toArray, List.append_toArray, List.nil_append, List.cons_append]
  go_wp2_with (go_at_call 107; refine (fields_ok (w.heap.size + 2) _).mono ?_; rintro e w' ⟨rfl, rfl⟩)
  obtain ⟨W0, hW0⟩ : ∃ W0, (((w.alloc (.cells #[.string (mk s)] 9)).alloc (.cells (xcells (List.replicate 12 0)) 45)).alloc (.cells (xcells (List.replicate 12 0)) 45)).alloc (.cells #[.pointer (some ⟨w.heap.size + 2, 0, none⟩)] 134) = W0 := ⟨_, rfl⟩
  obtain ⟨k0, k1, k2, k3, hsz, hB0⟩ := alloc4 _ _ _ _ _ _ hW0
  simp only [xcells, List.replicate, List.map] at hW0
  simp only [Int.natCast_zero] at hW0
  rw [hW0]
  clear hW0
  refine wp_rangeFunc (α := Fin 12) (gf := 128) (lb := #[.pointer (some ⟨w.heap.size + 3, 0, none⟩)]) rfl (enters_of Try.func128 (by kernel_rfl) rfl)
    (fields_stops 2 (w.heap.size + 2) (w.heap.size + 3) (fun k => k = w.heap.size ∨ k = w.heap.size + 2) W0 (by rw [cell_at k3]; rfl) (by intro k hk; omega)) (fun _ => rfl)
    (fun pre W => W.heap[w.heap.size + 2]? = some (.cells (xcells (fst_ s pre).1) 45 (0, 0)) ∧ W.heap[w.heap.size]? = some (.cells #[.string (mk (fst_ s pre).2)] 9 (0, 0)) ∧ W.heap[w.heap.size + 1]? = some (.cells (xcells (List.replicate 12 0)) 45 (0, 0)) ∧ Below w.heap.size w W)
    (fun _ _ _ => False)
    ?own (fun _ _ _ _ _ hs _ _ => hs) ⟨k2, k0, k1, hB0⟩
    (fun k => { tmps := #[.string (mk s), .pointer (some ⟨w.heap.size, 0, none⟩), .pointer (some ⟨w.heap.size + 1, 0, none⟩), .pointer (some ⟨w.heap.size + 2, 0, none⟩), .pointer (some ⟨w.heap.size + 2, foff k, none⟩), .int .i64 (fsz k : Nat), .func (.func 128) #[] #[.pointer (some ⟨w.heap.size + 3, 0, none⟩)], .pointer (some ⟨w.heap.size + 2, foff k, none⟩), .int .i64 (fsz k : Nat), undef, undef, undef, undef, undef, undef, undef, undef, undef, undef, undef], defers := [] }) ?assign ?body ?done ?stop
  case own =>
    intro pre A B row hs hg hr
    obtain ⟨h1, h2, h3, h4⟩ := hs
    have hr' : ∀ r, row = some r → ∃ o : Obj, A.heap[r]? = some o ∧ o.isCells = false := fun r e => (hr r e).2
    exact ⟨cells_grown h1 hg hr', cells_grown h2 hg hr', cells_grown h3 hg hr', h4.grown hg (by have := (Array.getElem?_eq_some_iff.1 h1).1; omega) (fun r e => by have := (hr r e).1; omega)⟩
  case assign =>
    intro l k W K hK
    gi_wp2
    exact hK
  case body =>
    rintro l pre k W ⟨h1, h2, h3, hB⟩ hlen
    have hrest := fst_rest s pre
    have hz4 := fsz_le k
    have hof := foff_lt k
    have hcx : W.cell? ⟨w.heap.size + 2, foff k, none⟩ = some (.int .i64 (((fst_ s pre).1.getD (foff k) 0 : Nat) : Int)) := by
      rw [cell_at h1, xcells_get _ _ (by rw [fst_len]; exact hof)]
    have hcs : W.cell? ⟨w.heap.size, 0, none⟩ = some (.string (mk (fst_ s pre).2)) := by rw [cell_at h2]; rfl
    have hfx := free_of h1 (foff k)
    have hfs := free_of h2 0
    have hb1 : (fsz k : Int) ≤ ((fst_ s pre).2.length : Nat) := by omega
    have hb2 : fsz k ≤ (fst_ s pre).2.length := by omega
    have hb0 : (0 : Int) ≤ (fsz k : Nat) := by omega
    have hle : le ((fst_ s pre).2.take (fsz k)) < 4294967296 := by
      have h := le_lt ((fst_ s pre).2.take (fsz k))
      rw [List.length_take] at h
      have : 256 ^ (min (fsz k) (fst_ s pre).2.length) ≤ 256 ^ 4 := Nat.pow_le_pow_right (by omega) (by omega)
      omega
    have hwr : IntKind.i64.wrap ((le ((fst_ s pre).2.take (fsz k)) : Nat) : Int) = ((le ((fst_ s pre).2.take (fsz k)) : Nat) : Int) := by
      simp [IntKind.wrap, IntKind.bits, IntKind.signed]; omega
    have H1 := Lib.hid h1
    have H2 := Lib.hid h2
    have H3 := Lib.hid h3
    clear h1 h2 h3
    gi_wp2
    refine region_P_in_round (fun w' => w'.cell? ⟨w.heap.size, 0, none⟩ = some (.string (mk (fst_ s pre).2))) [11] (by kernel_rfl) (by kernel_rfl) (fun _ _ h => h) ?_ (fun hHeld => ?_)
    · exact (by simp [hcs])
    refine wpP_take (i := 0) (oi := ?oi1001) (v := ?v1001) ?hi1001 (by kernel_rfl) (by kernel_rfl) (by kernel_rfl) (by kernel_rfl) ?hQ1001 ?hy1001 (by assumption) ?rest1001
    case hi1001 => (simp only [List.getElem?_toArray, List.getElem?_cons_succ, List.getElem?_cons_zero]; exact rfl)
    case hQ1001 => exact fun _ _ _ h => h
    case hy1001 => (refine Or.inl ⟨by kernel_rfl, ?_⟩; intro w hSw; (try dsimp only at hSw); go_simp; try (with_reducible rfl))
    try simp only [Act.put, List.setIfInBounds_toArray, List.set_cons_zero, List.set_cons_succ]
    refine wpP_take (i := 1) (oi := ?oi1002) (v := ?v1002) ?hi1002 (by kernel_rfl) (by kernel_rfl) (by kernel_rfl) (by kernel_rfl) ?hQ1002 ?hy1002 (by assumption) ?rest1002
    case hi1002 => (simp only [List.getElem?_toArray, List.getElem?_cons_succ, List.getElem?_cons_zero]; exact rfl)
    case hQ1002 => exact fun _ _ _ h => h
    case hy1002 => (refine Or.inl ⟨by kernel_rfl, ?_⟩; intro w hSw; (try dsimp only at hSw); go_simp; try (with_reducible rfl))
    try simp only [Act.put, List.setIfInBounds_toArray, List.set_cons_zero, List.set_cons_succ]
    refine wpP_take (i := 2) (oi := ?oi1003) (v := ?v1003) ?hi1003 (by kernel_rfl) (by kernel_rfl) (by kernel_rfl) (by kernel_rfl) ?hQ1003 ?hy1003 (by assumption) ?rest1003
    case hi1003 => (simp only [List.getElem?_toArray, List.getElem?_cons_succ, List.getElem?_cons_zero]; exact rfl)
    case hQ1003 => exact fun _ _ _ h => h
    case hy1003 => (refine Or.inl ⟨by kernel_rfl, ?_⟩; intro w hSw; (try dsimp only at hSw); go_simp; try (with_reducible rfl))
    try simp only [Act.put, List.setIfInBounds_toArray, List.set_cons_zero, List.set_cons_succ]
    refine wpP_take (i := 3) (oi := ?oi1004) (v := ?v1004) ?hi1004 (by kernel_rfl) (by kernel_rfl) (by kernel_rfl) (by kernel_rfl) ?hQ1004 ?hy1004 (by assumption) ?rest1004
    case hi1004 => (simp only [List.getElem?_toArray, List.getElem?_cons_succ, List.getElem?_cons_zero]; exact rfl)
    case hQ1004 => exact fun _ _ _ h => h
    case hy1004 => (refine Or.inl ⟨by kernel_rfl, ?_⟩; intro w hSw; (try dsimp only at hSw); go_simp; try (with_reducible rfl))
    try simp only [Act.put, List.setIfInBounds_toArray, List.set_cons_zero, List.set_cons_succ]
    refine wpP_take (i := 6) (oi := ?oi1005) (v := ?v1005) ?hi1005 (by kernel_rfl) (by kernel_rfl) (by kernel_rfl) (by kernel_rfl) ?hQ1005 ?hy1005 (by assumption) ?rest1005
    case hi1005 => (simp only [List.getElem?_toArray, List.getElem?_cons_succ, List.getElem?_cons_zero]; exact rfl)
    case hQ1005 => exact fun _ _ _ h => h
    case hy1005 => (refine Or.inl ⟨by kernel_rfl, ?_⟩; intro w hSw; (try dsimp only at hSw); go_simp; try (with_reducible rfl))
    try simp only [Act.put, List.setIfInBounds_toArray, List.set_cons_zero, List.set_cons_succ]
    refine wpP_take (i := 7) (oi := ?oi1006) (v := ?v1006) ?hi1006 (by kernel_rfl) (by kernel_rfl) (by kernel_rfl) (by kernel_rfl) ?hQ1006 ?hy1006 (by assumption) ?rest1006
    case hi1006 => (simp only [List.getElem?_toArray, List.getElem?_cons_succ, List.getElem?_cons_zero]; exact rfl)
    case hQ1006 => exact fun _ _ _ h => h
    case hy1006 => (refine Or.inl ⟨by kernel_rfl, ?_⟩; intro w hSw; (try dsimp only at hSw); go_simp; try (with_reducible rfl))
    try simp only [Act.put, List.setIfInBounds_toArray, List.set_cons_zero, List.set_cons_succ]
    refine wpP_take (i := 8) (oi := ?oi1007) (v := ?v1007) ?hi1007 (by kernel_rfl) (by kernel_rfl) (by kernel_rfl) (by kernel_rfl) ?hQ1007 ?hy1007 (by assumption) ?rest1007
    case hi1007 => (simp only [List.getElem?_toArray, List.getElem?_cons_succ, List.getElem?_cons_zero]; exact rfl)
    case hQ1007 => exact fun _ _ _ h => h
    case hy1007 => (refine Or.inl ⟨by kernel_rfl, ?_⟩; intro w hSw; (try dsimp only at hSw); go_simp; try (with_reducible rfl))
    try simp only [Act.put, List.setIfInBounds_toArray, List.set_cons_zero, List.set_cons_succ]
    refine wpP_ready (rs := [4]) (by kernel_rfl) (by simp) ?_
    refine AllP.cons (o := ?o1008) ?ho1008 (fun K hK => ?_) AllP.nil
    case ho1008 => (simp only [List.getElem?_toArray, List.getElem?_cons_succ, List.getElem?_cons_zero]; exact rfl)
    go_simp
    go_at_call 69
    refine (get_ok _ _ (by simp; omega)).mono ?_
    rintro e w3 ⟨rfl, rfl⟩
    refine hK.out _ _ ?_ (fun hHeld => ?_)
    · exact (by simp [hcs])
    clear hK K
    try simp only [Act.put, List.setIfInBounds_toArray, List.set_cons_zero, List.set_cons_succ]
    refine wpP_take (i := 5) (oi := ?oi1009) (v := ?v1009) ?hi1009 (by kernel_rfl) (by kernel_rfl) (by kernel_rfl) (by kernel_rfl) ?hQ1009 ?hy1009 (by assumption) ?rest1009
    case hi1009 => (simp only [List.getElem?_toArray, List.getElem?_cons_succ, List.getElem?_cons_zero]; exact rfl)
    case hQ1009 => exact fun _ _ _ h => h
    case hy1009 => (refine Or.inl ⟨by kernel_rfl, ?_⟩; intro w hSw; (try dsimp only at hSw); go_simp; try (with_reducible rfl))
    try simp only [Act.put, List.setIfInBounds_toArray, List.set_cons_zero, List.set_cons_succ]
    refine wpP_take (i := 9) (oi := ?oi1010) (v := ?v1010) ?hi1010 (by kernel_rfl) (by kernel_rfl) (by kernel_rfl) (by kernel_rfl) ?hQ1010 ?hy1010 (by assumption) ?rest1010
    case hi1010 => (simp only [List.getElem?_toArray, List.getElem?_cons_succ, List.getElem?_cons_zero]; exact rfl)
    case hQ1010 => exact fun _ _ _ h => h
    case hy1010 => (refine Or.inl ⟨by kernel_rfl, ?_⟩; intro w hSw; (try dsimp only at hSw); go_simp; try (with_reducible rfl))
    try simp only [Act.put, List.setIfInBounds_toArray, List.set_cons_zero, List.set_cons_succ]
    refine wpP_ready (rs := [10]) (by kernel_rfl) (by simp) ?_
    refine AllP.cons (o := ?o1011) ?ho1011 (fun K hK => ?_) AllP.nil
    case ho1011 => (simp only [List.getElem?_toArray, List.getElem?_cons_succ, List.getElem?_cons_zero]; exact rfl)
    go_simp
    refine hK.out _ _ ?_ (fun hHeld => ?_)
    · exact ((cell_set_other (by omega)).trans hcs)
    clear hK K
    try simp only [Act.put, List.setIfInBounds_toArray, List.set_cons_zero, List.set_cons_succ]
    refine wpP_ready (rs := [11]) (by kernel_rfl) (by simp) ?_
    refine AllP.last (o := ?o1012) ?ho1012 (by kernel_rfl) (fun K hK => ?_) AllP.nil
    case ho1012 => (simp only [List.getElem?_toArray, List.getElem?_cons_succ, List.getElem?_cons_zero]; exact rfl)
    go_simp
    refine hK.out _ _ ?_
    clear hK K
    try simp only [Act.put, List.setIfInBounds_toArray, List.set_cons_zero, List.set_cons_succ]
    refine wpP_done (by kernel_rfl) ?_ _
    gi_wp2
    refine ⟨keeps_drew ((KeepsOthers.setCell _ _ _).trans (KeepsOthers.setCell _ _ _)), (((KpC.refl _ _).setCell (.inr rfl) _).setCell (.inl rfl) _).drew, ?_, ?_, ?_, ?_⟩
    · rw [fst_snoc]
      refine (blk_set_other (blk_set H1.out (foff k) _) (by omega) _ _).trans ?_
      rw [xcells_set]
      rfl
    · rw [fst_snoc]
      refine (blk_set (blk_set_other H2.out (by omega) _ _) 0 _).trans ?_
      congr 3
      simp only [fstep]
      rw [List.take_of_length_le (by simp)]
      rfl
    · exact blk_set_other (blk_set_other H3.out (by omega) _ _) (by omega) _ _
    · exact (below_set (below_set hB (by omega)) (Nat.le_refl _)).drew
  case done =>
    rintro D xs W hD rfl ⟨h1, h2, h3, hB⟩ hK
    rw [fst_all s hs] at h1
    obtain ⟨q0, q1, q2, q3, q4, q5, q6, q7, q8, q9, q10, q11⟩ := cells12 (a0 := .int .i64 (((inoOf s).kind : Nat) : Int)) h1
    obtain ⟨r0, r1, r2, r3, r4, r5, r6, r7, r8, r9, r10, r11⟩ := cells12 (a0 := .int .i64 0) h3
    obtain ⟨f0, f1, f2, f3, f4, f5, f6, f7, f8, f9, f10, f11⟩ := frees12 h3
    have HR := Lib.hid h3
    have HK := Lib.hid hK
    have hDlt : w.heap.size + 4 ≤ D := by omega
    clear h1 h2 h3 hK k0 k1 k2 k3 hB0
    go_wp2
    have hbf := blk_set12 (b0 := .int .i64 0) (a0 := .int .i64 (((inoOf s).kind : Nat) : Int)) (a1 := .int .i64 (((inoOf s).links : Nat) : Int)) (a2 := .int .i64 (((inoOf s).owner : Nat) : Int)) (a3 := .int .i64 (((inoOf s).size : Nat) : Int)) (a4 := .int .i64 (((inoOf s).d0 : Nat) : Int)) (a5 := .int .i64 (((inoOf s).d1 : Nat) : Int)) (a6 := .int .i64 (((inoOf s).d2 : Nat) : Int)) (a7 := .int .i64 (((inoOf s).d3 : Nat) : Int)) (a8 := .int .i64 (((inoOf s).d4 : Nat) : Int)) (a9 := .int .i64 (((inoOf s).d5 : Nat) : Int)) (a10 := .int .i64 (((inoOf s).ind : Nat) : Int)) (a11 := .int .i64 (((inoOf s).ext : Nat) : Int)) HR.out
    have hBf : Below w.heap.size w ((((((((((((W.setCell ⟨w.heap.size + 1, 0, none⟩ (.int .i64 (((inoOf s).kind : Nat) : Int))).setCell ⟨w.heap.size + 1, 1, none⟩ (.int .i64 (((inoOf s).links : Nat) : Int))).setCell ⟨w.heap.size + 1, 2, none⟩ (.int .i64 (((inoOf s).owner : Nat) : Int))).setCell ⟨w.heap.size + 1, 3, none⟩ (.int .i64 (((inoOf s).size : Nat) : Int))).setCell ⟨w.heap.size + 1, 4, none⟩ (.int .i64 (((inoOf s).d0 : Nat) : Int))).setCell ⟨w.heap.size + 1, 5, none⟩ (.int .i64 (((inoOf s).d1 : Nat) : Int))).setCell ⟨w.heap.size + 1, 6, none⟩ (.int .i64 (((inoOf s).d2 : Nat) : Int))).setCell ⟨w.heap.size + 1, 7, none⟩ (.int .i64 (((inoOf s).d3 : Nat) : Int))).setCell ⟨w.heap.size + 1, 8, none⟩ (.int .i64 (((inoOf s).d4 : Nat) : Int))).setCell ⟨w.heap.size + 1, 9, none⟩ (.int .i64 (((inoOf s).d5 : Nat) : Int))).setCell ⟨w.heap.size + 1, 10, none⟩ (.int .i64 (((inoOf s).ind : Nat) : Int))).setCell ⟨w.heap.size + 1, 11, none⟩ (.int .i64 (((inoOf s).ext : Nat) : Int))) := below_set12 hB (by omega)
    have hKf : ((((((((((((W.setCell ⟨w.heap.size + 1, 0, none⟩ (.int .i64 (((inoOf s).kind : Nat) : Int))).setCell ⟨w.heap.size + 1, 1, none⟩ (.int .i64 (((inoOf s).links : Nat) : Int))).setCell ⟨w.heap.size + 1, 2, none⟩ (.int .i64 (((inoOf s).owner : Nat) : Int))).setCell ⟨w.heap.size + 1, 3, none⟩ (.int .i64 (((inoOf s).size : Nat) : Int))).setCell ⟨w.heap.size + 1, 4, none⟩ (.int .i64 (((inoOf s).d0 : Nat) : Int))).setCell ⟨w.heap.size + 1, 5, none⟩ (.int .i64 (((inoOf s).d1 : Nat) : Int))).setCell ⟨w.heap.size + 1, 6, none⟩ (.int .i64 (((inoOf s).d2 : Nat) : Int))).setCell ⟨w.heap.size + 1, 7, none⟩ (.int .i64 (((inoOf s).d3 : Nat) : Int))).setCell ⟨w.heap.size + 1, 8, none⟩ (.int .i64 (((inoOf s).d4 : Nat) : Int))).setCell ⟨w.heap.size + 1, 9, none⟩ (.int .i64 (((inoOf s).d5 : Nat) : Int))).setCell ⟨w.heap.size + 1, 10, none⟩ (.int .i64 (((inoOf s).ind : Nat) : Int))).setCell ⟨w.heap.size + 1, 11, none⟩ (.int .i64 (((inoOf s).ext : Nat) : Int))).heap[D]? = some (.deferred (some [])) := heap_set12 HK.out (by omega)
    generalize ((((((((((((W.setCell ⟨w.heap.size + 1, 0, none⟩ (.int .i64 (((inoOf s).kind : Nat) : Int))).setCell ⟨w.heap.size + 1, 1, none⟩ (.int .i64 (((inoOf s).links : Nat) : Int))).setCell ⟨w.heap.size + 1, 2, none⟩ (.int .i64 (((inoOf s).owner : Nat) : Int))).setCell ⟨w.heap.size + 1, 3, none⟩ (.int .i64 (((inoOf s).size : Nat) : Int))).setCell ⟨w.heap.size + 1, 4, none⟩ (.int .i64 (((inoOf s).d0 : Nat) : Int))).setCell ⟨w.heap.size + 1, 5, none⟩ (.int .i64 (((inoOf s).d1 : Nat) : Int))).setCell ⟨w.heap.size + 1, 6, none⟩ (.int .i64 (((inoOf s).d2 : Nat) : Int))).setCell ⟨w.heap.size + 1, 7, none⟩ (.int .i64 (((inoOf s).d3 : Nat) : Int))).setCell ⟨w.heap.size + 1, 8, none⟩ (.int .i64 (((inoOf s).d4 : Nat) : Int))).setCell ⟨w.heap.size + 1, 9, none⟩ (.int .i64 (((inoOf s).d5 : Nat) : Int))).setCell ⟨w.heap.size + 1, 10, none⟩ (.int .i64 (((inoOf s).ind : Nat) : Int))).setCell ⟨w.heap.size + 1, 11, none⟩ (.int .i64 (((inoOf s).ext : Nat) : Int))) = Wf at hbf hBf hKf ⊢
    have hbg := (World.putObj_heap_other (r := D) (o := .deferred none) (show w.heap.size + 1 ≠ D by omega)).trans hbf
    obtain ⟨c0, c1, c2, c3, c4, c5, c6, c7, c8, c9, c10, c11⟩ := cells12 hbg
    refine ⟨by simp, .inl ⟨_, _, rfl, run_takeDeferred hKf, ?_⟩⟩
    exact ⟨.agg #[.int .i64 (((inoOf s).kind : Nat) : Int), .int .i64 (((inoOf s).links : Nat) : Int), .int .i64 (((inoOf s).owner : Nat) : Int), .int .i64 (((inoOf s).size : Nat) : Int), .int .i64 (((inoOf s).d0 : Nat) : Int), .int .i64 (((inoOf s).d1 : Nat) : Int), .int .i64 (((inoOf s).d2 : Nat) : Int), .int .i64 (((inoOf s).d3 : Nat) : Int), .int .i64 (((inoOf s).d4 : Nat) : Int), .int .i64 (((inoOf s).d5 : Nat) : Int), .int .i64 (((inoOf s).ind : Nat) : Int), .int .i64 (((inoOf s).ext : Nat) : Int)], by simp [results, Try.results73, go_sem, c0, c1, c2, c3, c4, c5, c6, c7, c8, c9, c10, c11], rfl, below_putD hBf (by omega) hKf⟩
  case stop =>
    rintro D c pre W _ _ h _
    exact h.elim
end Go.Proofs.Ytacdohlhalnioaa
end

/- An inode's bytes, and whether it fits (the program's). -/
section
set_option linter.unusedSimpArgs false
set_option linter.unusedVariables false
set_option maxRecDepth 20000
namespace Go.Proofs.Ytacdohlhalnioaa
open Go.RowKit Go.Shelf
attribute [local go_sem] Oper.semAt_some

theorem below_undrew {w w' : World} (h : Below w.drew.heap.size w.drew w') : Below w.heap.size w w' := ⟨h.os, h.tape, h.output, h.size, h.block⟩
theorem Ino.list_len (x : Ino) : x.list.length = 12 := rfl
/-- The bytes of some fields. -/
def bytesTo (x : Ino) (pre : List (Fin 12)) : Blk := pre.flatMap fun (k : Fin 12) => ple (x.list.getD (foff k) 0) (fsz k)
def inoBytes (x : Ino) : Blk := bytesTo x (List.finRange 12)
theorem bytesTo_snoc (x : Ino) (pre : List (Fin 12)) (k : Fin 12) : bytesTo x (pre ++ [k]) = bytesTo x pre ++ ple (x.list.getD (foff k) 0) (fsz k) := by simp [bytesTo]
theorem bytesTo_len (x : Ino) (pre : List (Fin 12)) : (bytesTo x pre).length ≤ 4 * pre.length := by
  induction pre with
  | nil => simp [bytesTo]
  | cons k pre ih =>
    have := fsz_le k
    simp only [bytesTo, List.flatMap_cons, List.length_append, ple_length, List.length_cons] at ih ⊢
    omega
/-- All numbers of an inode are of four bytes. -/
def small4 (x : Ino) : Prop := ∀ k : Fin 12, x.list.getD (foff k) 0 < 4294967296

set_option maxHeartbeats 2000000 in
theorem ibytes_ok (x : Ino) (w : World) (hs : small4 x) :
    Calls Try.prog 109 #[.agg #[.int .i64 ((x.kind : Nat) : Int), .int .i64 ((x.links : Nat) : Int), .int .i64 ((x.owner : Nat) : Int), .int .i64 ((x.size : Nat) : Int), .int .i64 ((x.d0 : Nat) : Int), .int .i64 ((x.d1 : Nat) : Int), .int .i64 ((x.d2 : Nat) : Int), .int .i64 ((x.d3 : Nat) : Int), .int .i64 ((x.d4 : Nat) : Int), .int .i64 ((x.d5 : Nat) : Int), .int .i64 ((x.ind : Nat) : Int), .int .i64 ((x.ext : Nat) : Int)]] w fun e w' => e = .returned (.string (mk (inoBytes x))) ∧ Below w.heap.size w w' := by
  refine callsIn_wide.1 (callsIn_of_wp_marks (n := 3) Try.func109 rfl trivial (wpIn_wide.2 ?_) rfl)
  simp only [Try.ntmps109, List.size_toArray, List.length_cons, List.length_nil, Nat.reduceAdd, Nat.reduceSub, Array.replicate_succ, Array.replicate_zero, List.push_toArray, List.append_toArray, List.nil_append, List.cons_append]
  go_wp2_with (go_at_call 107; refine (fields_ok w.heap.size _).mono ?_; rintro e w' ⟨rfl, rfl⟩)
  obtain ⟨W0, hW0⟩ : ∃ W0, ((w.alloc (.cells (xcells x.list) 45)).alloc (.cells #[.string (mk [])] 9)).alloc (.cells #[.pointer (some ⟨w.heap.size, 0, none⟩)] 134) = W0 := ⟨_, rfl⟩
  obtain ⟨k0, k1, k2, hsz, hB0⟩ := alloc3 _ _ _ _ _ hW0
  simp only [xcells, Ino.list, List.map] at hW0
  rw [hW0]
  clear hW0
  have HX := Lib.hid hs
  clear hs
  refine wp_rangeFunc (α := Fin 12) (gf := 128) (lb := #[.pointer (some ⟨w.heap.size + 2, 0, none⟩)]) rfl (enters_of Try.func128 (by kernel_rfl) rfl)
    (fields_stops 2 w.heap.size (w.heap.size + 2) (fun k => k = w.heap.size + 1) W0 (by rw [cell_at k2]; rfl) (by intro k hk; omega)) (fun _ => rfl)
    (fun pre W => W.heap[w.heap.size]? = some (.cells (xcells x.list) 45 (0, 0)) ∧ W.heap[w.heap.size + 1]? = some (.cells #[.string (mk (bytesTo x pre))] 9 (0, 0)) ∧ Below w.heap.size w W)
    (fun _ _ _ => False)
    ?own (fun _ _ _ _ _ hs _ _ => hs) ⟨k0, (by simpa [bytesTo] using k1), hB0⟩
    (fun k => { tmps := #[.agg #[.int .i64 ((x.kind : Nat) : Int), .int .i64 ((x.links : Nat) : Int), .int .i64 ((x.owner : Nat) : Int), .int .i64 ((x.size : Nat) : Int), .int .i64 ((x.d0 : Nat) : Int), .int .i64 ((x.d1 : Nat) : Int), .int .i64 ((x.d2 : Nat) : Int), .int .i64 ((x.d3 : Nat) : Int), .int .i64 ((x.d4 : Nat) : Int), .int .i64 ((x.d5 : Nat) : Int), .int .i64 ((x.ind : Nat) : Int), .int .i64 ((x.ext : Nat) : Int)], .pointer (some ⟨w.heap.size, 0, none⟩), .string (mk []), .pointer (some ⟨w.heap.size + 1, 0, none⟩), .pointer (some ⟨w.heap.size, foff k, none⟩), .int .i64 (fsz k : Nat), .func (.func 128) #[] #[.pointer (some ⟨w.heap.size + 2, 0, none⟩)], .pointer (some ⟨w.heap.size, foff k, none⟩), .int .i64 (fsz k : Nat), undef, undef, undef, undef, undef, undef, undef, undef, undef], defers := [] }) ?assign ?body ?done ?stop
  case own =>
    intro pre A B row hs hg hr
    obtain ⟨h1, h2, h4⟩ := hs
    have hr' : ∀ r, row = some r → ∃ o : Obj, A.heap[r]? = some o ∧ o.isCells = false := fun r e => (hr r e).2
    exact ⟨cells_grown h1 hg hr', cells_grown h2 hg hr', h4.grown hg (by have := (Array.getElem?_eq_some_iff.1 h1).1; omega) (fun r e => by have := (hr r e).1; omega)⟩
  case assign =>
    intro l k W K hK
    gi_wp2
    exact hK
  case body =>
    rintro l pre k W ⟨h1, h2, hB⟩ hlen
    have hz4 := fsz_le k
    have hof := foff_lt k
    have hfb : x.list.getD (foff k) 0 < 4294967296 := HX.out k
    have hcx : W.cell? ⟨w.heap.size, foff k, none⟩ = some (.int .i64 ((x.list.getD (foff k) 0 : Nat) : Int)) := by
      rw [cell_at h1, xcells_get _ _ (by rw [Ino.list_len]; exact hof)]
    have hcs : W.cell? ⟨w.heap.size + 1, 0, none⟩ = some (.string (mk (bytesTo x pre))) := by rw [cell_at h2]; rfl
    have hwr := wrap_u64 (x.list.getD (foff k) 0) hfb
    have hlb := bytesTo_len x pre
    have hlp := ple_length (x.list.getD (foff k) 0) (fsz k)
    have H1 := Lib.hid h1
    have H2 := Lib.hid h2
    have HL := Lib.hid hlp
    clear h1 h2 hlp
    obtain ⟨fv, hfv⟩ : ∃ fv, x.list.getD (foff k) 0 = fv := ⟨_, rfl⟩
    have hcat : ¬ (9223372036854775807 < (bytesTo x pre).length + fsz k) := by omega
    rw [hfv] at hfb hcx hwr
    have HV := Lib.hid hfv
    clear hfv
    gi_wp2
    refine region_P_in_round (fun w' => w'.cell? ⟨w.heap.size + 1, 0, none⟩ = some (.string (mk (bytesTo x pre))) ∧ w'.cell? ⟨w.heap.size, foff k, none⟩ = some (.int .i64 (fv : Int))) [8] (by kernel_rfl) (by kernel_rfl) (fun _ _ h => h) ?_ (fun hHeld => ?_)
    · exact ⟨by simp [hcs], by simp [hcx]⟩
    refine wpP_take (i := 0) (oi := ?oi2001) (v := ?v2001) ?hi2001 (by kernel_rfl) (by kernel_rfl) (by kernel_rfl) (by kernel_rfl) ?hQ2001 ?hy2001 (by assumption) ?rest2001
    case hi2001 => (simp only [List.getElem?_toArray, List.getElem?_cons_succ, List.getElem?_cons_zero]; exact rfl)
    case hQ2001 => exact fun _ _ _ h => h
    case hy2001 => (refine Or.inl ⟨by kernel_rfl, ?_⟩; intro w hSw; (try dsimp only at hSw); go_simp; try (with_reducible rfl))
    try simp only [Act.put, List.setIfInBounds_toArray, List.set_cons_zero, List.set_cons_succ]
    refine wpP_take (i := 1) (oi := ?oi2002) (v := ?v2002) ?hi2002 (by kernel_rfl) (by kernel_rfl) (by kernel_rfl) (by kernel_rfl) ?hQ2002 ?hy2002 (by assumption) ?rest2002
    case hi2002 => (simp only [List.getElem?_toArray, List.getElem?_cons_succ, List.getElem?_cons_zero]; exact rfl)
    case hQ2002 => exact fun _ _ _ h => h
    case hy2002 => (refine Or.inl ⟨by kernel_rfl, ?_⟩; intro w hSw; (try dsimp only at hSw); go_simp; try (with_reducible rfl))
    try simp only [Act.put, List.setIfInBounds_toArray, List.set_cons_zero, List.set_cons_succ]
    refine wpP_take (i := 2) (oi := ?oi2003) (v := ?v2003) ?hi2003 (by kernel_rfl) (by kernel_rfl) (by kernel_rfl) (by kernel_rfl) ?hQ2003 ?hy2003 (by assumption) ?rest2003
    case hi2003 => (simp only [List.getElem?_toArray, List.getElem?_cons_succ, List.getElem?_cons_zero]; exact rfl)
    case hQ2003 => exact fun _ _ _ h => h
    case hy2003 => (refine Or.inl ⟨by kernel_rfl, ?_⟩; intro w hSw; (try dsimp only at hSw); go_simp; try (with_reducible rfl))
    try simp only [Act.put, List.setIfInBounds_toArray, List.set_cons_zero, List.set_cons_succ]
    refine wpP_take (i := 3) (oi := ?oi2004) (v := ?v2004) ?hi2004 (by kernel_rfl) (by kernel_rfl) (by kernel_rfl) (by kernel_rfl) ?hQ2004 ?hy2004 (by assumption) ?rest2004
    case hi2004 => (simp only [List.getElem?_toArray, List.getElem?_cons_succ, List.getElem?_cons_zero]; exact rfl)
    case hQ2004 => exact fun _ _ _ h => h
    case hy2004 => (refine Or.inl ⟨by kernel_rfl, ?_⟩; intro w hSw; (try dsimp only at hSw); go_simp; try (with_reducible rfl))
    try simp only [Act.put, List.setIfInBounds_toArray, List.set_cons_zero, List.set_cons_succ]
    refine wpP_take (i := 4) (oi := ?oi2005) (v := ?v2005) ?hi2005 (by kernel_rfl) (by kernel_rfl) (by kernel_rfl) (by kernel_rfl) ?hQ2005 ?hy2005 (by assumption) ?rest2005
    case hi2005 => (simp only [List.getElem?_toArray, List.getElem?_cons_succ, List.getElem?_cons_zero]; exact rfl)
    case hQ2005 => exact fun _ _ _ h => h
    case hy2005 => (refine Or.inl ⟨by kernel_rfl, ?_⟩; intro w hSw; (try dsimp only at hSw); go_simp; try (with_reducible rfl))
    try simp only [Act.put, List.setIfInBounds_toArray, List.set_cons_zero, List.set_cons_succ]
    refine wpP_take (i := 5) (oi := ?oi2006) (v := ?v2006) ?hi2006 (by kernel_rfl) (by kernel_rfl) (by kernel_rfl) (by kernel_rfl) ?hQ2006 ?hy2006 (by assumption) ?rest2006
    case hi2006 => (simp only [List.getElem?_toArray, List.getElem?_cons_succ, List.getElem?_cons_zero]; exact rfl)
    case hQ2006 => exact fun _ _ _ h => h
    case hy2006 => (refine Or.inl ⟨by kernel_rfl, ?_⟩; intro w hSw; (try dsimp only at hSw); go_simp; try (with_reducible rfl))
    try simp only [Act.put, List.setIfInBounds_toArray, List.set_cons_zero, List.set_cons_succ]
    refine wpP_ready (rs := [6]) (by kernel_rfl) (by simp) ?_
    refine AllP.cons (o := ?o2007) ?ho2007 (fun K hK => ?_) AllP.nil
    case ho2007 => (simp only [List.getElem?_toArray, List.getElem?_cons_succ, List.getElem?_cons_zero]; exact rfl)
    go_simp
    go_at_call 67
    refine (put_ok _ (fsz k) _ (by omega) hfb).mono ?_
    rintro e w3 ⟨rfl, hb3⟩
    have hz := below_undrew hb3
    have d1 := cell_keep hcs hz
    have d2 := free_of (blk_keep H2.out hz) 0
    refine hK.out _ _ ?_ (fun hHeld => ?_)
    · exact ⟨cell_keep hcs hz, cell_keep hcx hz⟩
    clear hK K
    try simp only [Act.put, List.setIfInBounds_toArray, List.set_cons_zero, List.set_cons_succ]
    refine wpP_take (i := 7) (oi := ?oi2008) (v := ?v2008) ?hi2008 (by kernel_rfl) (by kernel_rfl) (by kernel_rfl) (by kernel_rfl) ?hQ2008 ?hy2008 (by assumption) ?rest2008
    case hi2008 => (simp only [List.getElem?_toArray, List.getElem?_cons_succ, List.getElem?_cons_zero]; exact rfl)
    case hQ2008 => exact fun _ _ _ h => h
    case hy2008 => (refine Or.inl ⟨by kernel_rfl, ?_⟩; intro w hSw; (try dsimp only at hSw); go_simp; try (with_reducible rfl))
    try simp only [Act.put, List.setIfInBounds_toArray, List.set_cons_zero, List.set_cons_succ]
    refine wpP_ready (rs := [8]) (by kernel_rfl) (by simp) ?_
    refine AllP.last (o := ?o2009) ?ho2009 (by kernel_rfl) (fun K hK => ?_) AllP.nil
    case ho2009 => (simp only [List.getElem?_toArray, List.getElem?_cons_succ, List.getElem?_cons_zero]; exact rfl)
    go_simp
    refine hK.out _ _ ?_
    clear hK K
    try simp only [Act.put, List.setIfInBounds_toArray, List.set_cons_zero, List.set_cons_succ]
    refine wpP_done (by kernel_rfl) ?_ _
    gi_wp2
    refine ⟨(KeepsOthers.of_grownBy (row := none) ⟨hz.os, hz.tape, hz.output, hz.size, fun q hq _ => hz.block q hq⟩ (fun j o e => by cases e)).trans (KeepsOthers.setCell _ _ _), KpC.setCell (F := fun k => k = w.heap.size + 1) (KpC.of_below hz) rfl _, ?_, ?_, ?_⟩
    · exact blk_set_other (blk_keep H1.out hz) (by omega) _ _
    · rw [bytesTo_snoc, HV.out]
      exact blk_set (blk_keep H2.out hz) 0 _
    · exact below_set (below_keep hB (Nat.le_refl _) hz) (by omega)
  case done =>
    rintro D xs W hD rfl ⟨h1, h2, hB⟩ hK
    have hco : W.cell? ⟨w.heap.size + 1, 0, none⟩ = some (.string (mk (inoBytes x))) := by rw [cell_at h2]; rfl
    clear h1 h2 k0 k1 k2 hB0
    have HK := Lib.hid hK
    clear hK
    go_wp2
    refine ⟨by simp, .inl ⟨_, _, rfl, run_takeDeferred HK.out, ?_⟩⟩
    exact ⟨_, results_tmp rfl _ _ _, rfl, below_putD hB (by omega) HK.out⟩
  case stop =>
    rintro D c pre W _ _ h _
    exact h.elim
end Go.Proofs.Ytacdohlhalnioaa
end

/- Contracts: a volume with another block (the program's and the document's). -/
section
set_option linter.unusedSimpArgs false
set_option linter.unusedVariables false
set_option maxRecDepth 20000
namespace Go.Proofs.Ytacdohlhalnioaa
open Go.RowKit
attribute [local go_sem] Oper.semAt_some

theorem mk_strs (m : Nat) (hm : m ≤ 8796093022208) (W : World) : (Instr.makeSlice 22 (.int .i64 (m : Int)) (.int .i64 (m : Int))).run Try.prog W = .ok (.slice (some ⟨W.heap.size, 0, none⟩) m m) (W.alloc (.cells (strs (List.replicate m [])).toArray 9)) := by
  obtain ⟨i0, hi, hz0, hz1, hz2⟩ := info_parts (show (Try.prog.info? 9).map (fun i => (i.zero, i.size, i.bytes)) = some (some (.string (mk [])), 1, 16) by kernel_rfl)
  exact make_str _ _ i0 Try.underlying22 hi hz0 hz1 hz2 m hm W
theorem src_cell {w : World} {b o j : Nat} {u : Value} (h : w.cell? ⟨b, o + j, none⟩ = some u) : w.cell? ((⟨b, o, none⟩ : Addr).add j) = some u := by
  by_cases hj : j = 0
  · subst hj; simpa [Addr.add] using h
  · simpa [Addr.add, hj] using h
abbrev VS := VB 9
set_option maxHeartbeats 400000 in
theorem with_ok (A : Option Addr) (c : Nat) (v : Vol) (i : Nat) (s : Blk) (w : World) (hr : RS w A v) (hi : i < v.length) :
    Calls Try.prog 135 #[.slice A v.length c, .int .i64 i, .string (mk s)] w fun e w' => ∃ g, e = .returned (.slice (some ⟨g, 0, none⟩) v.length v.length) ∧ VS w' g (v.set i s) ∧ w.heap.size ≤ g ∧ Below w.heap.size w w' := by
  have hl := hr.1
  obtain ⟨bA, oA, rfl, hbA, hc⟩ := hr.open_ (by omega)
  have HC := Lib.hid hc
  clear hr hc
  have hmk := mk_strs v.length hl
  have hi' : (i : Int) < (v.length : Nat) := by omega
  go_enter Try.func135, Try.ntmps135
  go_wp2_with (refine wpList_copy_splice rfl _ _ 22 22 rfl 9 Try.underlying22 (by kernel_rfl) _ _ v.length v.length v.length c rfl rfl w.heap.size 0 (strs (List.replicate v.length [])) 9 (blk_new w _) (strs v) (by rw [strs_length]; exact (Nat.min_self _).symm) (fun _ => ⟨rfl, _, rfl, ?_⟩) (by simp [strs_length]) (strs_one v) w.heap.size w ((Below.refl _ _).alloc (Nat.le_refl _) _) (Nat.le_refl _) ?_)
  · intro j u hu
    have hj : j < v.length := by
      rw [← strs_length v]
      exact (List.getElem?_eq_some_iff.1 hu).1
    rw [strs_get v j hj] at hu
    injection hu with hu
    subst hu
    exact cell_keep (src_cell (HC.out j hj)) ((Below.refl _ _).alloc (Nat.le_refl _) _)
  · intro w1 hg1 hb1
    have hv1 : VS w1 w.heap.size v := ⟨_, hg1.out, fun j hj => by rw [splice_all v.length _ _ (by simp [strs_length]) (strs_length v), List.getElem?_toArray]; exact strs_get v j hj⟩
    clear hg1
    have hcell := hv1.cell i hi
    have hfree := hv1.free i
    have HV := Lib.hid hv1
    clear hv1
    go_wp2
    go_ret
    exact ⟨_, rfl, HV.out.set i s hi, Nat.le_refl _, below_set hb1 (Nat.le_refl _)⟩
set_option maxHeartbeats 400000 in
theorem rwith_ok (A : Option Addr) (c : Nat) (v : Vol) (i : Nat) (s : Blk) (w : World) (hr : RS w A v) (hi : i < v.length) :
    Calls Try.prog 117 #[.slice A v.length c, .int .i64 i, .string (mk s)] w fun e w' => ∃ g c', e = .returned (.slice (some ⟨g, 0, none⟩) v.length c') ∧ VS w' g (v.set i s) ∧ w.heap.size ≤ g ∧ Below w.heap.size w w' := by
  have hl := hr.1
  obtain ⟨bA, oA, rfl, hbA, hc⟩ := hr.open_ (by omega)
  have HC := Lib.hid hc
  clear hr hc
  have hi' : (i : Int) < (v.length : Nat) := by omega
  obtain ⟨i0, hi0, hz0, hz1, hz2⟩ := info_parts (show (Try.prog.info? 9).map (fun i => (i.zero, i.size, i.bytes)) = some (some (.string (mk [])), 1, 16) by kernel_rfl)
  go_enter Try.func117, Try.ntmps117
  have hown : (w.alloc (.cells #[] 9)).ownsRow w.heap.size 9 1 (.slice (some ⟨w.heap.size, 0, none⟩) 0 0) 0 [] :=
    ⟨rfl, .inr ⟨w.heap.size, 0, #[], rfl, Nat.le_refl _, blk_new w _, Nat.le_refl _, by simp [maxLen], rfl, rfl⟩⟩
  have HO := Lib.hid hown
  clear hown
  go_wp2_with (at_builtin; refine wpList_append_own _ rfl _ _ 22 rfl w.heap.size 9 i0 _ 1 16 Try.underlying22 hi0 hz0 hz1 hz2 rfl (by decide) _ 0 [] rfl HO.out ⟨bA, oA, none⟩ v.length c (strs v) rfl (by rw [strs_length, Nat.mul_one]) ?hn (strs_one v) (by simp only [maxLen]; omega) (by omega) (by simp) ?hk)
  case hn =>
    intro j u hu
    have hj : j < v.length := by
      rw [← strs_length v]
      exact (List.getElem?_eq_some_iff.1 hu).1
    rw [strs_get v j hj] at hu
    injection hu with hu
    subst hu
    exact cell_keep (src_cell (HC.out j hj)) ((Below.refl _ _).alloc (Nat.le_refl _) _)
  case hk =>
    intro u w1 hown1 hgrow _
    have hb1 : Below w.heap.size w w1 := ((Below.refl _ _).alloc (Nat.le_refl _) _).grown hgrow (by simp) (fun k e => by cases e; exact Nat.le_refl _)
    obtain ⟨g, cap, rfl, hg, hv1⟩ := VB.of_own hown1 rfl (by omega)
    clear hown1 hgrow
    have hcell := hv1.cell i hi
    have hfree := hv1.free i
    have HV := Lib.hid hv1
    clear hv1
    go_wp2
    go_ret
    exact ⟨_, _, rfl, HV.out.set i s hi, hg, below_set hb1 hg⟩
end Go.Proofs.Ytacdohlhalnioaa
end

/- Contracts: a map with a bit turned (the program's and the document's). -/
section
set_option linter.unusedSimpArgs false
set_option linter.unusedVariables false
set_option maxRecDepth 20000
namespace Go.Proofs.Ytacdohlhalnioaa
open Go.RowKit
attribute [local go_sem] Oper.semAt_some

theorem byteCells_bvs (l : Blk) : (Lib.byteCells l).toArray = bvs l := rfl
theorem copy_u8 (m : Blk) (W : World) (g ty : Nat) (cur : Array Value) (hg : W.heap[g]? = some (.cells cur 5 (0, 0))) (hc : cur.size = m.length) :
    (Builtin.copy_ #[62, 9] ty #[.slice (some ⟨g, 0, none⟩) m.length m.length, .string (mk m)]).run Try.prog W = .ok (goInt m.length) (W.setRow g (bvs m)) := by
  rw [Lib.run_copy_row_string W _ _ ty 5 g 0 m.length m.length (mk m) cur 5 Try.underlying62 (by kernel_rfl) hg (by simp) (by simp [hc])]
  simp only [mk_size, mk_toList]
  congr 2
  rw [← byteCells_bvs, List.take_zero, List.nil_append, Nat.zero_add, List.drop_of_length_le (by simp [hc]), List.append_nil]
theorem bxor (m : Blk) (i : Nat) : ((gb m (i / 8) : Nat) : Int) = ((gb m (i / 8) : Nat) : Int) := rfl
theorem wrap_bit (q : Nat) (h : q < 8) : IntKind.u8.wrap (2 ^ q) = ((2 ^ q : Nat) : Int) := by
  rcases (by omega : q = 0 ∨ q = 1 ∨ q = 2 ∨ q = 3 ∨ q = 4 ∨ q = 5 ∨ q = 6 ∨ q = 7) with rfl | rfl | rfl | rfl | rfl | rfl | rfl | rfl <;> rfl
theorem bits_xor (a q : Nat) (ha : a < 256) (hq : q < 8) : bits BinOp.xor IntKind.u8 (a : Int) (2 ^ q) = ((a ^^^ 2 ^ q : Nat) : Int) := by
  rw [two_pow]
  exact u8_xor_nat a (2 ^ q) ha (show 2 ^ q < 2 ^ 8 from Nat.pow_lt_pow_right (by omega) hq)
theorem xor_lt (a q : Nat) (ha : a < 256) (hq : q < 8) : a ^^^ 2 ^ q < 256 := Nat.xor_lt_two_pow (n := 8) ha (Nat.pow_lt_pow_right (by omega) hq)
set_option maxHeartbeats 1000000 in
theorem turn_ok (m : Blk) (i : Nat) (w : World) (hm : m.length = 128) (h : i < 1024) :
    Calls Try.prog 93 #[.string (mk m), .int .i64 i] w fun e w' => e = .returned (.string (mk (turn m i))) ∧ Below w.heap.size w w' := by
  have hmk := mk_u8 m.length (by omega)
  have hcp := fun ty => copy_u8 m (w.alloc (.cells (bvs (zs m.length)) 5)) w.heap.size ty _ (blk_new w _) (by simp [bvs_size])
  have hrow : ((w.alloc (.cells (bvs (zs m.length)) 5)).setRow w.heap.size (bvs m)).heap[w.heap.size]? = some (.cells (bvs m) 5 (0, 0)) := setRow_heap _ _ _ _ _ _ (blk_new w _)
  have hB1 : Below w.heap.size w ((w.alloc (.cells (bvs (zs m.length)) 5)).setRow w.heap.size (bvs m)) := below_setRow ((Below.refl _ _).alloc (Nat.le_refl _) _) (Nat.le_refl _) _
  generalize (w.alloc (.cells (bvs (zs m.length)) 5)).setRow w.heap.size (bvs m) = W1 at *
  have h1 : (0 : Int) ≤ (i : Int) / 8 := by omega
  have h2 : (i : Int) / 8 < (m.length : Nat) := by omega
  have hk : i / 8 < m.length := by omega
  have hc : W1.cell? ⟨w.heap.size, i / 8, none⟩ = some (.int .u8 (gb m (i / 8) : Nat)) := by rw [cell_at hrow, bvs_get _ _ hk]
  have hf := free_of hrow (i / 8)
  have HR := Lib.hid hrow
  have hw8 : IntKind.i64.wrap ((i : Int) / 8) = (i : Int) / 8 := by simp [IntKind.wrap, IntKind.bits, IntKind.signed]; omega
  have htn : ((i : Int) / 8).toNat = i / 8 := by omega
  obtain ⟨q, hq⟩ : ∃ q : Nat, i % 8 = q := ⟨_, rfl⟩
  have hsm : (i : Int).tmod 8 = (q : Int) := by rw [Int.tmod_eq_emod_of_nonneg (by omega)]; omega
  have hq8 : (q : Int) ≤ 8 := by omega
  have hwq : IntKind.i64.wrap (q : Int) = (q : Int) := by simp [IntKind.wrap, IntKind.bits, IntKind.signed]; omega
  have hwp : IntKind.u8.wrap (2 ^ q) = ((2 ^ q : Nat) : Int) := wrap_bit q (by omega)
  have hml : m.length ≤ 1024 := by omega
  have HM := Lib.hid hm
  clear hrow hm
  go_enter Try.func93, Try.ntmps93
  go_wp2
  refine region_P (fun w' => w'.cell? ⟨w.heap.size, i / 8, none⟩ = some (.int .u8 (gb m (i / 8) : Nat)) ∧ w'.frozen? ⟨w.heap.size, i / 8, none⟩ = false) [10] (by kernel_rfl) ?_ (fun hHeld => ?_)
  · exact ⟨by simpa using hc, by simpa using hf⟩
  refine wpP_take (i := 0) (oi := ?oi212001) (v := ?v212001) ?hi212001 (by kernel_rfl) (by kernel_rfl) (by kernel_rfl) (by kernel_rfl) ?hQ212001 ?hy212001 (by assumption) ?rest212001
  case hi212001 => (simp only [List.getElem?_toArray, List.getElem?_cons_succ, List.getElem?_cons_zero]; exact rfl)
  case hQ212001 => exact fun _ _ _ h => h
  case hy212001 => (refine Or.inl ⟨by kernel_rfl, ?_⟩; intro w hSw; (try dsimp only at hSw); go_simp; try (with_reducible rfl))
  try simp only [Act.put, List.setIfInBounds_toArray, List.set_cons_zero, List.set_cons_succ]
  refine wpP_take (i := 1) (oi := ?oi212002) (v := ?v212002) ?hi212002 (by kernel_rfl) (by kernel_rfl) (by kernel_rfl) (by kernel_rfl) ?hQ212002 ?hy212002 (by assumption) ?rest212002
  case hi212002 => (simp only [List.getElem?_toArray, List.getElem?_cons_succ, List.getElem?_cons_zero]; exact rfl)
  case hQ212002 => exact fun _ _ _ h => h
  case hy212002 => (refine Or.inl ⟨by kernel_rfl, ?_⟩; intro w hSw; (try dsimp only at hSw); go_simp; try (with_reducible rfl))
  try simp only [Act.put, List.setIfInBounds_toArray, List.set_cons_zero, List.set_cons_succ]
  refine wpP_take (i := 2) (oi := ?oi212003) (v := ?v212003) ?hi212003 (by kernel_rfl) (by kernel_rfl) (by kernel_rfl) (by kernel_rfl) ?hQ212003 ?hy212003 (by assumption) ?rest212003
  case hi212003 => (simp only [List.getElem?_toArray, List.getElem?_cons_succ, List.getElem?_cons_zero]; exact rfl)
  case hQ212003 => exact fun _ _ _ h => h
  case hy212003 => (refine Or.inl ⟨by kernel_rfl, ?_⟩; intro w hSw; (try dsimp only at hSw); go_simp; try (with_reducible rfl))
  try simp only [Act.put, List.setIfInBounds_toArray, List.set_cons_zero, List.set_cons_succ]
  refine wpP_take (i := 3) (oi := ?oi212004) (v := ?v212004) ?hi212004 (by kernel_rfl) (by kernel_rfl) (by kernel_rfl) (by kernel_rfl) ?hQ212004 ?hy212004 (by assumption) ?rest212004
  case hi212004 => (simp only [List.getElem?_toArray, List.getElem?_cons_succ, List.getElem?_cons_zero]; exact rfl)
  case hQ212004 => exact fun _ _ _ h => h
  case hy212004 => (refine Or.inl ⟨by kernel_rfl, ?_⟩; intro w hSw; (try dsimp only at hSw); go_simp; try (with_reducible rfl))
  try simp only [Act.put, List.setIfInBounds_toArray, List.set_cons_zero, List.set_cons_succ]
  refine wpP_take (i := 4) (oi := ?oi212005) (v := ?v212005) ?hi212005 (by kernel_rfl) (by kernel_rfl) (by kernel_rfl) (by kernel_rfl) ?hQ212005 ?hy212005 (by assumption) ?rest212005
  case hi212005 => (simp only [List.getElem?_toArray, List.getElem?_cons_succ, List.getElem?_cons_zero]; exact rfl)
  case hQ212005 => exact fun _ _ _ h => h
  case hy212005 => (refine Or.inl ⟨by kernel_rfl, ?_⟩; intro w hSw; (try dsimp only at hSw); go_simp; try (with_reducible rfl))
  try simp only [Act.put, List.setIfInBounds_toArray, List.set_cons_zero, List.set_cons_succ]
  refine wpP_take (i := 5) (oi := ?oi212006) (v := ?v212006) ?hi212006 (by kernel_rfl) (by kernel_rfl) (by kernel_rfl) (by kernel_rfl) ?hQ212006 ?hy212006 (by assumption) ?rest212006
  case hi212006 => (simp only [List.getElem?_toArray, List.getElem?_cons_succ, List.getElem?_cons_zero]; exact rfl)
  case hQ212006 => exact fun _ _ _ h => h
  case hy212006 => (refine Or.inl ⟨by kernel_rfl, ?_⟩; intro w hSw; (try dsimp only at hSw); go_simp; try (with_reducible rfl))
  try simp only [Act.put, List.setIfInBounds_toArray, List.set_cons_zero, List.set_cons_succ]
  refine wpP_take (i := 6) (oi := ?oi212007) (v := ?v212007) ?hi212007 (by kernel_rfl) (by kernel_rfl) (by kernel_rfl) (by kernel_rfl) ?hQ212007 ?hy212007 (by assumption) ?rest212007
  case hi212007 => (simp only [List.getElem?_toArray, List.getElem?_cons_succ, List.getElem?_cons_zero]; exact rfl)
  case hQ212007 => exact fun _ _ _ h => h
  case hy212007 => (refine Or.inl ⟨by kernel_rfl, ?_⟩; intro w hSw; (try dsimp only at hSw); go_simp; try (with_reducible rfl))
  try simp only [Act.put, List.setIfInBounds_toArray, List.set_cons_zero, List.set_cons_succ]
  refine wpP_take (i := 7) (oi := ?oi212008) (v := ?v212008) ?hi212008 (by kernel_rfl) (by kernel_rfl) (by kernel_rfl) (by kernel_rfl) ?hQ212008 ?hy212008 (by assumption) ?rest212008
  case hi212008 => (simp only [List.getElem?_toArray, List.getElem?_cons_succ, List.getElem?_cons_zero]; exact rfl)
  case hQ212008 => exact fun _ _ _ h => h
  case hy212008 => (refine Or.inl ⟨by kernel_rfl, ?_⟩; intro w hSw; (try dsimp only at hSw); go_simp; try (with_reducible rfl))
  try simp only [Act.put, List.setIfInBounds_toArray, List.set_cons_zero, List.set_cons_succ]
  refine wpP_take (i := 8) (oi := ?oi212009) (v := ?v212009) ?hi212009 (by kernel_rfl) (by kernel_rfl) (by kernel_rfl) (by kernel_rfl) ?hQ212009 ?hy212009 (by assumption) ?rest212009
  case hi212009 => (simp only [List.getElem?_toArray, List.getElem?_cons_succ, List.getElem?_cons_zero]; exact rfl)
  case hQ212009 => exact fun _ _ _ h => h
  case hy212009 => (refine Or.inl ⟨by kernel_rfl, ?_⟩; intro w hSw; (try dsimp only at hSw); go_simp; try (with_reducible rfl))
  try simp only [Act.put, List.setIfInBounds_toArray, List.set_cons_zero, List.set_cons_succ]
  refine wpP_take (i := 9) (oi := ?oi212010) (v := ?v212010) ?hi212010 (by kernel_rfl) (by kernel_rfl) (by kernel_rfl) (by kernel_rfl) ?hQ212010 ?hy212010 (by assumption) ?rest212010
  case hi212010 => (simp only [List.getElem?_toArray, List.getElem?_cons_succ, List.getElem?_cons_zero]; exact rfl)
  case hQ212010 => exact fun _ _ _ h => h
  case hy212010 => (refine Or.inl ⟨by kernel_rfl, ?_⟩; intro w hSw; (try dsimp only at hSw); go_simp; try (with_reducible rfl))
  try simp only [Act.put, List.setIfInBounds_toArray, List.set_cons_zero, List.set_cons_succ]
  refine wpP_ready (rs := [10]) (by kernel_rfl) (by simp) ?_
  refine AllP.last (o := ?o212011) ?ho212011 (by kernel_rfl) (fun K hK => ?_) AllP.nil
  case ho212011 => (simp only [List.getElem?_toArray, List.getElem?_cons_succ, List.getElem?_cons_zero]; exact rfl)
  go_simp
  refine hK.out _ _ ?_
  clear hK K
  try simp only [Act.put, List.setIfInBounds_toArray, List.set_cons_zero, List.set_cons_succ]
  refine wpP_done (by kernel_rfl) ?_ _
  rw [show bits BinOp.xor IntKind.u8 ((gb m (i / 8) : Nat) : Int) (2 ^ q) = ((gb m (i / 8) ^^^ 2 ^ q : Nat) : Int) from bits_xor _ q (gb_lt _ _) (by omega)]
  have hrow2 := blk_set HR.out (i / 8) (.int .u8 ((gb m (i / 8) ^^^ 2 ^ q : Nat) : Int))
  rw [bvs_set _ _ _ (xor_lt _ q (gb_lt _ _) (by omega)), ← hq] at hrow2
  have hB2 : Below w.heap.size w (W1.setCell ⟨w.heap.size, i / 8, none⟩ (.int .u8 ((gb m (i / 8) ^^^ 2 ^ (i % 8) : Nat) : Int))).drew := (below_set hB1 (Nat.le_refl _)).drew
  rw [← hq]
  generalize (W1.setCell ⟨w.heap.size, i / 8, none⟩ (.int .u8 ((gb m (i / 8) ^^^ 2 ^ (i % 8) : Nat) : Int))) = W2 at *
  have hst := str_of_u8 W2.drew w.heap.size 0 m.length m.length (turn m i) (by simp) (fun j hj => by
    rw [Nat.zero_add, show W2.drew.cell? ⟨w.heap.size, j, none⟩ = W2.cell? ⟨w.heap.size, j, none⟩ from rfl, cell_at hrow2]
    exact bvs_get _ _ (by simpa using hj))
  clear hrow2
  go_wp2
  go_ret
  exact ⟨rfl, hB2⟩

theorem turn_split (m : Blk) (i : Nat) (h : i / 8 < m.length) : m.take (i / 8) ++ [UInt8.ofNat (gb m (i / 8) ^^^ 2 ^ (i % 8))] ++ m.drop (i / 8 + 1) = turn m i := by
  rw [turn, List.set_eq_take_append_cons_drop, if_pos h, List.append_assoc]
  rfl
set_option maxHeartbeats 2000000 in
theorem rturn_ok (m : Blk) (i : Nat) (w : World) (hm : m.length = 128) (h : i < 1024) :
    Calls Try.prog 118 #[.string (mk m), .int .i64 i] w fun e w' => e = .returned (.string (mk (turn m i))) ∧ Below w.heap.size w w' := by
  have hHT := Lib.hid (turn_split m i (by omega))
  have h1 : (0 : Int) ≤ (i : Int) / 8 := by omega
  have h2 : (i : Int) / 8 < (m.length : Nat) := by omega
  have h2' : ¬ ((m.length : Int) < (i : Int) / 8) := by omega
  have h3' : ¬ ((m.length : Int) < (i : Int) / 8 + 1) := by omega
  have h3'' : (0 : Int) ≤ (i : Int) / 8 + 1 := by omega
  have hk : i / 8 < m.length := by omega
  have hw8 : IntKind.i64.wrap ((i : Int) / 8) = (i : Int) / 8 := by simp [IntKind.wrap, IntKind.bits, IntKind.signed]; omega
  have hw8' : IntKind.i64.wrap ((i : Int) / 8 + 1) = (i : Int) / 8 + 1 := by simp [IntKind.wrap, IntKind.bits, IntKind.signed]; omega
  have htn : ((i : Int) / 8).toNat = i / 8 := by omega
  have htn' : ((i : Int) / 8 + 1).toNat = i / 8 + 1 := by omega
  obtain ⟨q, hq⟩ : ∃ q : Nat, i % 8 = q := ⟨_, rfl⟩
  have hsm : (i : Int).tmod 8 = (q : Int) := by rw [Int.tmod_eq_emod_of_nonneg (by omega)]; omega
  have hq8 : (q : Int) ≤ 8 := by omega
  have hwq : IntKind.i64.wrap (q : Int) = (q : Int) := by simp [IntKind.wrap, IntKind.bits, IntKind.signed]; omega
  have hwp : IntKind.u8.wrap (2 ^ q) = ((2 ^ q : Nat) : Int) := wrap_bit q (by omega)
  have hbx : bits BinOp.xor IntKind.u8 ((gb m (i / 8) : Nat) : Int) (2 ^ q) = ((gb m (i / 8) ^^^ 2 ^ q : Nat) : Int) := bits_xor _ q (gb_lt _ _) (by omega)
  obtain ⟨cb, hcb⟩ : ∃ cb : UInt8, UInt8.ofNat (gb m (i / 8) ^^^ 2 ^ (i % 8)) = cb := ⟨_, rfl⟩
  have hcn : ((gb m (i / 8) ^^^ 2 ^ q : Nat) : Int) = ((gb [cb] 0 : Nat) : Int) := by
    rw [← hcb, hq]
    have := xor_lt _ q (gb_lt m (i / 8)) (by omega)
    rw [show gb [UInt8.ofNat (gb m (i / 8) ^^^ 2 ^ q)] 0 = (UInt8.ofNat (gb m (i / 8) ^^^ 2 ^ q)).toNat from rfl, UInt8.toNat_ofNat', Nat.mod_eq_of_lt this]
  rw [hcb] at hHT
  have hst := str_of_u8 (w.alloc (.cells #[.int .u8 ((gb m (i / 8) ^^^ 2 ^ q : Nat) : Int)] 5)).drew w.heap.size 0 1 1 [cb] rfl (fun j hj => by
    obtain rfl : j = 0 := by omega
    rw [show ((w.alloc (.cells #[.int .u8 ((gb m (i / 8) ^^^ 2 ^ q : Nat) : Int)] 5)).drew).cell? ⟨w.heap.size, 0 + 0, none⟩ = _ from cell_at (blk_new w _) 0, hcn]
    rfl)
  clear hcn hcb
  have hml : m.length ≤ 1024 := by omega
  have htk : List.take (m.length - (i / 8 + 1)) (List.drop (i / 8 + 1) m) = List.drop (i / 8 + 1) m := List.take_of_length_le (by simp)
  have hmin : min (i / 8) m.length = i / 8 := by omega
  have hc1 : ¬ (9223372036854775807 < i / 8 + 1) := by omega
  have hc2 : ¬ (9223372036854775807 < i / 8 + 1 + (m.length - (i / 8 + 1))) := by omega
  have HQ := Lib.hid hq
  have HM := Lib.hid hm
  clear hq hm
  go_enter Try.func118, Try.ntmps118
  go_wp2
  refine region_P (fun _ => True) [] (by kernel_rfl) ?_ (fun hHeld => ?_)
  · exact trivial
  refine wpP_take (i := 0) (oi := ?oi212012) (v := ?v212012) ?hi212012 (by kernel_rfl) (by kernel_rfl) (by kernel_rfl) (by kernel_rfl) ?hQ212012 ?hy212012 (by assumption) ?rest212012
  case hi212012 => (simp only [List.getElem?_toArray, List.getElem?_cons_succ, List.getElem?_cons_zero]; exact rfl)
  case hQ212012 => exact fun _ _ _ h => h
  case hy212012 => (refine Or.inl ⟨by kernel_rfl, ?_⟩; intro w hSw; (try dsimp only at hSw); go_simp; try (with_reducible rfl))
  try simp only [Act.put, List.setIfInBounds_toArray, List.set_cons_zero, List.set_cons_succ]
  refine wpP_take (i := 1) (oi := ?oi212013) (v := ?v212013) ?hi212013 (by kernel_rfl) (by kernel_rfl) (by kernel_rfl) (by kernel_rfl) ?hQ212013 ?hy212013 (by assumption) ?rest212013
  case hi212013 => (simp only [List.getElem?_toArray, List.getElem?_cons_succ, List.getElem?_cons_zero]; exact rfl)
  case hQ212013 => exact fun _ _ _ h => h
  case hy212013 => (refine Or.inl ⟨by kernel_rfl, ?_⟩; intro w hSw; (try dsimp only at hSw); go_simp; try (with_reducible rfl))
  try simp only [Act.put, List.setIfInBounds_toArray, List.set_cons_zero, List.set_cons_succ]
  refine wpP_take (i := 2) (oi := ?oi212014) (v := ?v212014) ?hi212014 (by kernel_rfl) (by kernel_rfl) (by kernel_rfl) (by kernel_rfl) ?hQ212014 ?hy212014 (by assumption) ?rest212014
  case hi212014 => (simp only [List.getElem?_toArray, List.getElem?_cons_succ, List.getElem?_cons_zero]; exact rfl)
  case hQ212014 => exact fun _ _ _ h => h
  case hy212014 => (refine Or.inl ⟨by kernel_rfl, ?_⟩; intro w hSw; (try dsimp only at hSw); go_simp; try (with_reducible rfl))
  try simp only [Act.put, List.setIfInBounds_toArray, List.set_cons_zero, List.set_cons_succ]
  refine wpP_take (i := 3) (oi := ?oi212015) (v := ?v212015) ?hi212015 (by kernel_rfl) (by kernel_rfl) (by kernel_rfl) (by kernel_rfl) ?hQ212015 ?hy212015 (by assumption) ?rest212015
  case hi212015 => (simp only [List.getElem?_toArray, List.getElem?_cons_succ, List.getElem?_cons_zero]; exact rfl)
  case hQ212015 => exact fun _ _ _ h => h
  case hy212015 => (refine Or.inl ⟨by kernel_rfl, ?_⟩; intro w hSw; (try dsimp only at hSw); go_simp; try (with_reducible rfl))
  try simp only [Act.put, List.setIfInBounds_toArray, List.set_cons_zero, List.set_cons_succ]
  refine wpP_take (i := 4) (oi := ?oi212016) (v := ?v212016) ?hi212016 (by kernel_rfl) (by kernel_rfl) (by kernel_rfl) (by kernel_rfl) ?hQ212016 ?hy212016 (by assumption) ?rest212016
  case hi212016 => (simp only [List.getElem?_toArray, List.getElem?_cons_succ, List.getElem?_cons_zero]; exact rfl)
  case hQ212016 => exact fun _ _ _ h => h
  case hy212016 => (refine Or.inl ⟨by kernel_rfl, ?_⟩; intro w hSw; (try dsimp only at hSw); go_simp; try (with_reducible rfl))
  try simp only [Act.put, List.setIfInBounds_toArray, List.set_cons_zero, List.set_cons_succ]
  refine wpP_take (i := 5) (oi := ?oi212017) (v := ?v212017) ?hi212017 (by kernel_rfl) (by kernel_rfl) (by kernel_rfl) (by kernel_rfl) ?hQ212017 ?hy212017 (by assumption) ?rest212017
  case hi212017 => (simp only [List.getElem?_toArray, List.getElem?_cons_succ, List.getElem?_cons_zero]; exact rfl)
  case hQ212017 => exact fun _ _ _ h => h
  case hy212017 => (refine Or.inl ⟨by kernel_rfl, ?_⟩; intro w hSw; (try dsimp only at hSw); go_simp; try (with_reducible rfl))
  try simp only [Act.put, List.setIfInBounds_toArray, List.set_cons_zero, List.set_cons_succ]
  refine wpP_take (i := 6) (oi := ?oi212018) (v := ?v212018) ?hi212018 (by kernel_rfl) (by kernel_rfl) (by kernel_rfl) (by kernel_rfl) ?hQ212018 ?hy212018 (by assumption) ?rest212018
  case hi212018 => (simp only [List.getElem?_toArray, List.getElem?_cons_succ, List.getElem?_cons_zero]; exact rfl)
  case hQ212018 => exact fun _ _ _ h => h
  case hy212018 => (refine Or.inl ⟨by kernel_rfl, ?_⟩; intro w hSw; (try dsimp only at hSw); go_simp; try (with_reducible rfl))
  try simp only [Act.put, List.setIfInBounds_toArray, List.set_cons_zero, List.set_cons_succ]
  refine wpP_take (i := 7) (oi := ?oi212019) (v := ?v212019) ?hi212019 (by kernel_rfl) (by kernel_rfl) (by kernel_rfl) (by kernel_rfl) ?hQ212019 ?hy212019 (by assumption) ?rest212019
  case hi212019 => (simp only [List.getElem?_toArray, List.getElem?_cons_succ, List.getElem?_cons_zero]; exact rfl)
  case hQ212019 => exact fun _ _ _ h => h
  case hy212019 => (refine Or.inl ⟨by kernel_rfl, ?_⟩; intro w hSw; (try dsimp only at hSw); go_simp; try (with_reducible rfl))
  try simp only [Act.put, List.setIfInBounds_toArray, List.set_cons_zero, List.set_cons_succ]
  refine wpP_take (i := 8) (oi := ?oi212020) (v := ?v212020) ?hi212020 (by kernel_rfl) (by kernel_rfl) (by kernel_rfl) (by kernel_rfl) ?hQ212020 ?hy212020 (by assumption) ?rest212020
  case hi212020 => (simp only [List.getElem?_toArray, List.getElem?_cons_succ, List.getElem?_cons_zero]; exact rfl)
  case hQ212020 => exact fun _ _ _ h => h
  case hy212020 => (refine Or.inl ⟨by kernel_rfl, ?_⟩; intro w hSw; (try dsimp only at hSw); go_simp; try (with_reducible rfl))
  try simp only [Act.put, List.setIfInBounds_toArray, List.set_cons_zero, List.set_cons_succ]
  refine wpP_take (i := 9) (oi := ?oi212021) (v := ?v212021) ?hi212021 (by kernel_rfl) (by kernel_rfl) (by kernel_rfl) (by kernel_rfl) ?hQ212021 ?hy212021 (by assumption) ?rest212021
  case hi212021 => (simp only [List.getElem?_toArray, List.getElem?_cons_succ, List.getElem?_cons_zero]; exact rfl)
  case hQ212021 => exact fun _ _ _ h => h
  case hy212021 => (refine Or.inl ⟨by kernel_rfl, ?_⟩; intro w hSw; (try dsimp only at hSw); go_simp; try (with_reducible rfl))
  try simp only [Act.put, List.setIfInBounds_toArray, List.set_cons_zero, List.set_cons_succ]
  refine wpP_take (i := 10) (oi := ?oi212022) (v := ?v212022) ?hi212022 (by kernel_rfl) (by kernel_rfl) (by kernel_rfl) (by kernel_rfl) ?hQ212022 ?hy212022 (by assumption) ?rest212022
  case hi212022 => (simp only [List.getElem?_toArray, List.getElem?_cons_succ, List.getElem?_cons_zero]; exact rfl)
  case hQ212022 => exact fun _ _ _ h => h
  case hy212022 => (refine Or.inl ⟨by kernel_rfl, ?_⟩; intro w hSw; (try dsimp only at hSw); go_simp; try (with_reducible rfl))
  try simp only [Act.put, List.setIfInBounds_toArray, List.set_cons_zero, List.set_cons_succ]
  refine wpP_take (i := 11) (oi := ?oi212023) (v := ?v212023) ?hi212023 (by kernel_rfl) (by kernel_rfl) (by kernel_rfl) (by kernel_rfl) ?hQ212023 ?hy212023 (by assumption) ?rest212023
  case hi212023 => (simp only [List.getElem?_toArray, List.getElem?_cons_succ, List.getElem?_cons_zero]; exact rfl)
  case hQ212023 => exact fun _ _ _ h => h
  case hy212023 => (refine Or.inl ⟨by kernel_rfl, ?_⟩; intro w hSw; (try dsimp only at hSw); go_simp; try (with_reducible rfl))
  try simp only [Act.put, List.setIfInBounds_toArray, List.set_cons_zero, List.set_cons_succ]
  refine wpP_take (i := 15) (oi := ?oi212024) (v := ?v212024) ?hi212024 (by kernel_rfl) (by kernel_rfl) (by kernel_rfl) (by kernel_rfl) ?hQ212024 ?hy212024 (by assumption) ?rest212024
  case hi212024 => (simp only [List.getElem?_toArray, List.getElem?_cons_succ, List.getElem?_cons_zero]; exact rfl)
  case hQ212024 => exact fun _ _ _ h => h
  case hy212024 => (refine Or.inl ⟨by kernel_rfl, ?_⟩; intro w hSw; (try dsimp only at hSw); go_simp; try (with_reducible rfl))
  try simp only [Act.put, List.setIfInBounds_toArray, List.set_cons_zero, List.set_cons_succ]
  refine wpP_take (i := 16) (oi := ?oi212025) (v := ?v212025) ?hi212025 (by kernel_rfl) (by kernel_rfl) (by kernel_rfl) (by kernel_rfl) ?hQ212025 ?hy212025 (by assumption) ?rest212025
  case hi212025 => (simp only [List.getElem?_toArray, List.getElem?_cons_succ, List.getElem?_cons_zero]; exact rfl)
  case hQ212025 => exact fun _ _ _ h => h
  case hy212025 => (refine Or.inl ⟨by kernel_rfl, ?_⟩; intro w hSw; (try dsimp only at hSw); go_simp; try (with_reducible rfl))
  try simp only [Act.put, List.setIfInBounds_toArray, List.set_cons_zero, List.set_cons_succ]
  refine wpP_take (i := 17) (oi := ?oi212026) (v := ?v212026) ?hi212026 (by kernel_rfl) (by kernel_rfl) (by kernel_rfl) (by kernel_rfl) ?hQ212026 ?hy212026 (by assumption) ?rest212026
  case hi212026 => (simp only [List.getElem?_toArray, List.getElem?_cons_succ, List.getElem?_cons_zero]; exact rfl)
  case hQ212026 => exact fun _ _ _ h => h
  case hy212026 => (refine Or.inl ⟨by kernel_rfl, ?_⟩; intro w hSw; (try dsimp only at hSw); go_simp; try (with_reducible rfl))
  try simp only [Act.put, List.setIfInBounds_toArray, List.set_cons_zero, List.set_cons_succ]
  refine wpP_take (i := 18) (oi := ?oi212027) (v := ?v212027) ?hi212027 (by kernel_rfl) (by kernel_rfl) (by kernel_rfl) (by kernel_rfl) ?hQ212027 ?hy212027 (by assumption) ?rest212027
  case hi212027 => (simp only [List.getElem?_toArray, List.getElem?_cons_succ, List.getElem?_cons_zero]; exact rfl)
  case hQ212027 => exact fun _ _ _ h => h
  case hy212027 => (refine Or.inl ⟨by kernel_rfl, ?_⟩; intro w hSw; (try dsimp only at hSw); go_simp; try (with_reducible rfl))
  try simp only [Act.put, List.setIfInBounds_toArray, List.set_cons_zero, List.set_cons_succ]
  refine wpP_take (i := 19) (oi := ?oi212028) (v := ?v212028) ?hi212028 (by kernel_rfl) (by kernel_rfl) (by kernel_rfl) (by kernel_rfl) ?hQ212028 ?hy212028 (by assumption) ?rest212028
  case hi212028 => (simp only [List.getElem?_toArray, List.getElem?_cons_succ, List.getElem?_cons_zero]; exact rfl)
  case hQ212028 => exact fun _ _ _ h => h
  case hy212028 => (refine Or.inl ⟨by kernel_rfl, ?_⟩; intro w hSw; (try dsimp only at hSw); go_simp; try (with_reducible rfl))
  try simp only [Act.put, List.setIfInBounds_toArray, List.set_cons_zero, List.set_cons_succ]
  refine wpP_ready (rs := [12]) (by kernel_rfl) (by simp) ?_
  refine AllP.cons (o := ?o212029) ?ho212029 (fun K hK => ?_) AllP.nil
  case ho212029 => (simp only [List.getElem?_toArray, List.getElem?_cons_succ, List.getElem?_cons_zero]; exact rfl)
  go_simp
  refine hK.out _ _ ?_ (fun hHeld => ?_)
  · exact trivial
  clear hK K
  try simp only [Act.put, List.setIfInBounds_toArray, List.set_cons_zero, List.set_cons_succ]
  refine wpP_ready (rs := [13]) (by kernel_rfl) (by simp) ?_
  refine AllP.cons (o := ?o212030) ?ho212030 (fun K hK => ?_) AllP.nil
  case ho212030 => (simp only [List.getElem?_toArray, List.getElem?_cons_succ, List.getElem?_cons_zero]; exact rfl)
  go_simp
  refine hK.out _ _ ?_ (fun hHeld => ?_)
  · exact trivial
  clear hK K
  try simp only [Act.put, List.setIfInBounds_toArray, List.set_cons_zero, List.set_cons_succ]
  refine wpP_take (i := 14) (oi := ?oi212031) (v := ?v212031) ?hi212031 (by kernel_rfl) (by kernel_rfl) (by kernel_rfl) (by kernel_rfl) ?hQ212031 ?hy212031 (by assumption) ?rest212031
  case hi212031 => (simp only [List.getElem?_toArray, List.getElem?_cons_succ, List.getElem?_cons_zero]; exact rfl)
  case hQ212031 => exact fun _ _ _ h => h
  case hy212031 => (refine Or.inl ⟨by kernel_rfl, ?_⟩; intro w hSw; (try dsimp only at hSw); go_simp; try (with_reducible rfl))
  try simp only [Act.put, List.setIfInBounds_toArray, List.set_cons_zero, List.set_cons_succ]
  refine wpP_take (i := 20) (oi := ?oi212032) (v := ?v212032) ?hi212032 (by kernel_rfl) (by kernel_rfl) (by kernel_rfl) (by kernel_rfl) ?hQ212032 ?hy212032 (by assumption) ?rest212032
  case hi212032 => (simp only [List.getElem?_toArray, List.getElem?_cons_succ, List.getElem?_cons_zero]; exact rfl)
  case hQ212032 => exact fun _ _ _ h => h
  case hy212032 => (refine Or.inl ⟨by kernel_rfl, ?_⟩; intro w hSw; (try dsimp only at hSw); go_simp; try (with_reducible rfl))
  try simp only [Act.put, List.setIfInBounds_toArray, List.set_cons_zero, List.set_cons_succ]
  refine wpP_take (i := 21) (oi := ?oi212033) (v := ?v212033) ?hi212033 (by kernel_rfl) (by kernel_rfl) (by kernel_rfl) (by kernel_rfl) ?hQ212033 ?hy212033 (by assumption) ?rest212033
  case hi212033 => (simp only [List.getElem?_toArray, List.getElem?_cons_succ, List.getElem?_cons_zero]; exact rfl)
  case hQ212033 => exact fun _ _ _ h => h
  case hy212033 => (refine Or.inl ⟨by kernel_rfl, ?_⟩; intro w hSw; (try dsimp only at hSw); go_simp; try (with_reducible rfl))
  try simp only [Act.put, List.setIfInBounds_toArray, List.set_cons_zero, List.set_cons_succ]
  refine wpP_done (by kernel_rfl) ?_ _
  go_wp2
  go_ret
  refine ⟨?_, ((Below.refl _ _).alloc (Nat.le_refl _) _).drew⟩
  have := hHT.out
  rw [List.append_assoc] at this
  exact ret_str this
end Go.Proofs.Ytacdohlhalnioaa
end

/- Contracts: a block is taken (the program's and the document's). -/
section
set_option linter.unusedSimpArgs false
set_option linter.unusedVariables false
set_option maxRecDepth 20000
namespace Go.Proofs.Ytacdohlhalnioaa
open Go.RowKit
attribute [local go_sem] Oper.semAt_some

theorem with_as (A : Option Addr) (c : Nat) (v : Vol) (i : Nat) (s : Blk) (w : World) (n : Nat) (hn : v.length = n) (hr : RS w A v) (hi : i < v.length) :
    Calls Try.prog 135 #[.slice A n c, .int .i64 i, .string (mk s)] w fun e w' => ∃ g, e = .returned (.slice (some ⟨g, 0, none⟩) n n) ∧ VS w' g (v.set i s) ∧ w.heap.size ≤ g ∧ Below w.heap.size w w' := by
  subst hn
  exact with_ok A c v i s w hr hi
theorem rwith_as (A : Option Addr) (c : Nat) (v : Vol) (i : Nat) (s : Blk) (w : World) (n : Nat) (hn : v.length = n) (hr : RS w A v) (hi : i < v.length) :
    Calls Try.prog 117 #[.slice A n c, .int .i64 i, .string (mk s)] w fun e w' => ∃ g c', e = .returned (.slice (some ⟨g, 0, none⟩) n c') ∧ VS w' g (v.set i s) ∧ w.heap.size ≤ g ∧ Below w.heap.size w w' := by
  subst hn
  exact rwith_ok A c v i s w hr hi

set_option maxHeartbeats 2000000 in
theorem take_ok (A : Option Addr) (c : Nat) (v : Vol) (i : Nat) (w : World) (hr : RS w A v) (hv : okV v = true) (hi1 : dataV v ≤ i) (hi2 : i < v.length) (hi3 : bit (bk v 2) i = false) (hi4 : ∀ j, dataV v ≤ j → j < i → bit (bk v 2) j = true) :
    Calls Try.prog 129 #[.slice A v.length c] w fun e w' => ∃ g c', e = .returned (.tuple #[.slice (some ⟨g, 0, none⟩) v.length c', .int .i64 i, .int .i64 0]) ∧ VS w' g ((v.set 2 (turn (bk v 2) i)).set i (zs 128)) ∧ w.heap.size ≤ g ∧ Below w.heap.size w w' := by
  have H := okV_iff.1 hv
  obtain ⟨h1, h2, h3, h4, h5, h6, h7, h8⟩ := H
  have hl := hr.1
  have HRR := Lib.hid hr
  obtain ⟨bA, oA, rfl, hbA, hc⟩ := hr.open_ (by omega)
  have hc2 := hc 2 (by omega)
  have S2 := Lib.hid (h1 2 (by omega))
  have HV := Lib.hid hv
  have i2 : (2 : Int) < (v.length : Nat) := by omega
  clear hr hc hv h1 h7 h8
  obtain ⟨d, hd⟩ : ∃ d, dataV v = d := ⟨_, rfl⟩
  have hdd : (3 + ((inosV v : Nat) + 1 : Int) / 2) = (d : Int) := by rw [← hd, dataV]; omega
  have hd' : d < v.length := by rw [← hd, dataV]; exact h6
  rw [hd] at hi1 hi4
  go_enter Try.func129, Try.ntmps129
  go_wp2_with (go_at_call 71; refine (of_ok _ _ _ _ HRR.out HV.out).mono ?_; rw [hdd]; rintro e w1 ⟨rfl, hb1⟩)
  have hb2 : Below w.heap.size w (w1.alloc (.cells #[.int .i64 v.length, .int .i64 (inosV v), .int .i64 1, .int .i64 2, .int .i64 3, .int .i64 d] 66)) := hb1.alloc hb1.size _
  obtain ⟨g0, g1, g2, g3, g4, g5⟩ := cells6 (blk_new w1 (.cells #[.int .i64 v.length, .int .i64 (inosV v), .int .i64 1, .int .i64 2, .int .i64 3, .int .i64 d] 66))
  generalize hW0 : w1.alloc (.cells #[.int .i64 v.length, .int .i64 (inosV v), .int .i64 1, .int .i64 2, .int .i64 3, .int .i64 d] 66) = W0 at *
  have d2 := cell_keep hc2 hb2
  have HR0 := HRR.out.below hb2
  have HB2 := Lib.hid hb2
  have HRW := Lib.hid HR0
  clear hW0 hb2 HR0
  go_wp2
  go_loop [7] (fun iv => ∃ k : Nat, d ≤ k ∧ k ≤ v.length ∧ iv = .int .i64 k ∧ k ≤ i) (fun iv => v.length - (intOf iv).toNat)
  case atStart => exact ⟨d, Nat.le_refl _, by omega, rfl, hi1⟩
  case round =>
    obtain ⟨k, hdk, hk, rfl, hki⟩ := hrel
    have hlt : k < v.length := by omega
    by_cases hb : bit (bk v 2) k = true
    · have hki' : k < i := by
        rcases Nat.lt_or_ge k i with h | h
        · exact h
        · have : k = i := by omega
          rw [this, hi3] at hb
          cases hb
      go_wp2_with (go_at_call 94; refine (has_ok _ _ _ S2.out (by omega)).mono ?_; rintro e w3 ⟨rfl, rfl⟩)
      refine ⟨⟨k + 1, by omega, by omega, by go_num, hki'⟩, by simp only [intOf]; omega⟩
    · have hb' : bit (bk v 2) k = false := by simpa using hb
      have hke : k = i := by
        rcases Nat.lt_or_ge k i with h | h
        · exact absurd (hi4 k hdk h) hb
        · omega
      subst hke
      clear hi4 hb hi3
      go_wp2_with (go_at_call 94; refine (has_ok _ _ _ S2.out (by omega)).mono ?_; rintro e w3 ⟨rfl, rfl⟩)
      refine region_P (fun w' => w'.cell? ⟨bA, oA + 2, none⟩ = some (.string (mk (bk v 2))) ∧ w'.cell? ⟨w1.heap.size, 3, none⟩ = some (.int .i64 2)) [] (by kernel_rfl) ?_ (fun hHeld => ?_)
      · exact ⟨d2, g3⟩
      refine wpP_take (i := 0) (oi := ?oi192001) (v := ?v192001) ?hi192001 (by kernel_rfl) (by kernel_rfl) (by kernel_rfl) (by kernel_rfl) ?hQ192001 ?hy192001 (by assumption) ?rest192001
      case hi192001 => (simp only [List.getElem?_toArray, List.getElem?_cons_succ, List.getElem?_cons_zero]; exact rfl)
      case hQ192001 => exact fun _ _ _ h => h
      case hy192001 => (refine Or.inl ⟨by kernel_rfl, ?_⟩; intro w hSw; (try dsimp only at hSw); go_simp; try (with_reducible rfl))
      try simp only [Act.put, List.setIfInBounds_toArray, List.set_cons_zero, List.set_cons_succ]
      refine wpP_take (i := 1) (oi := ?oi192002) (v := ?v192002) ?hi192002 (by kernel_rfl) (by kernel_rfl) (by kernel_rfl) (by kernel_rfl) ?hQ192002 ?hy192002 (by assumption) ?rest192002
      case hi192002 => (simp only [List.getElem?_toArray, List.getElem?_cons_succ, List.getElem?_cons_zero]; exact rfl)
      case hQ192002 => exact fun _ _ _ h => h
      case hy192002 => (refine Or.inl ⟨by kernel_rfl, ?_⟩; intro w hSw; (try dsimp only at hSw); go_simp; try (with_reducible rfl))
      try simp only [Act.put, List.setIfInBounds_toArray, List.set_cons_zero, List.set_cons_succ]
      refine wpP_take (i := 2) (oi := ?oi192003) (v := ?v192003) ?hi192003 (by kernel_rfl) (by kernel_rfl) (by kernel_rfl) (by kernel_rfl) ?hQ192003 ?hy192003 (by assumption) ?rest192003
      case hi192003 => (simp only [List.getElem?_toArray, List.getElem?_cons_succ, List.getElem?_cons_zero]; exact rfl)
      case hQ192003 => exact fun _ _ _ h => h
      case hy192003 => (refine Or.inl ⟨by kernel_rfl, ?_⟩; intro w hSw; (try dsimp only at hSw); go_simp; try (with_reducible rfl))
      try simp only [Act.put, List.setIfInBounds_toArray, List.set_cons_zero, List.set_cons_succ]
      refine wpP_take (i := 3) (oi := ?oi192004) (v := ?v192004) ?hi192004 (by kernel_rfl) (by kernel_rfl) (by kernel_rfl) (by kernel_rfl) ?hQ192004 ?hy192004 (by assumption) ?rest192004
      case hi192004 => (simp only [List.getElem?_toArray, List.getElem?_cons_succ, List.getElem?_cons_zero]; exact rfl)
      case hQ192004 => exact fun _ _ _ h => h
      case hy192004 => (refine Or.inl ⟨by kernel_rfl, ?_⟩; intro w hSw; (try dsimp only at hSw); go_simp; try (with_reducible rfl))
      try simp only [Act.put, List.setIfInBounds_toArray, List.set_cons_zero, List.set_cons_succ]
      refine wpP_take (i := 4) (oi := ?oi192005) (v := ?v192005) ?hi192005 (by kernel_rfl) (by kernel_rfl) (by kernel_rfl) (by kernel_rfl) ?hQ192005 ?hy192005 (by assumption) ?rest192005
      case hi192005 => (simp only [List.getElem?_toArray, List.getElem?_cons_succ, List.getElem?_cons_zero]; exact rfl)
      case hQ192005 => exact fun _ _ _ h => h
      case hy192005 => (refine Or.inl ⟨by kernel_rfl, ?_⟩; intro w hSw; (try dsimp only at hSw); go_simp; try (with_reducible rfl))
      try simp only [Act.put, List.setIfInBounds_toArray, List.set_cons_zero, List.set_cons_succ]
      refine wpP_take (i := 5) (oi := ?oi192006) (v := ?v192006) ?hi192006 (by kernel_rfl) (by kernel_rfl) (by kernel_rfl) (by kernel_rfl) ?hQ192006 ?hy192006 (by assumption) ?rest192006
      case hi192006 => (simp only [List.getElem?_toArray, List.getElem?_cons_succ, List.getElem?_cons_zero]; exact rfl)
      case hQ192006 => exact fun _ _ _ h => h
      case hy192006 => (refine Or.inl ⟨by kernel_rfl, ?_⟩; intro w hSw; (try dsimp only at hSw); go_simp; try (with_reducible rfl))
      try simp only [Act.put, List.setIfInBounds_toArray, List.set_cons_zero, List.set_cons_succ]
      refine wpP_take (i := 6) (oi := ?oi192007) (v := ?v192007) ?hi192007 (by kernel_rfl) (by kernel_rfl) (by kernel_rfl) (by kernel_rfl) ?hQ192007 ?hy192007 (by assumption) ?rest192007
      case hi192007 => (simp only [List.getElem?_toArray, List.getElem?_cons_succ, List.getElem?_cons_zero]; exact rfl)
      case hQ192007 => exact fun _ _ _ h => h
      case hy192007 => (refine Or.inl ⟨by kernel_rfl, ?_⟩; intro w hSw; (try dsimp only at hSw); go_simp; try (with_reducible rfl))
      try simp only [Act.put, List.setIfInBounds_toArray, List.set_cons_zero, List.set_cons_succ]
      refine wpP_take (i := 7) (oi := ?oi192008) (v := ?v192008) ?hi192008 (by kernel_rfl) (by kernel_rfl) (by kernel_rfl) (by kernel_rfl) ?hQ192008 ?hy192008 (by assumption) ?rest192008
      case hi192008 => (simp only [List.getElem?_toArray, List.getElem?_cons_succ, List.getElem?_cons_zero]; exact rfl)
      case hQ192008 => exact fun _ _ _ h => h
      case hy192008 => (refine Or.inl ⟨by kernel_rfl, ?_⟩; intro w hSw; (try dsimp only at hSw); go_simp; try (with_reducible rfl))
      try simp only [Act.put, List.setIfInBounds_toArray, List.set_cons_zero, List.set_cons_succ]
      refine wpP_take (i := 8) (oi := ?oi192009) (v := ?v192009) ?hi192009 (by kernel_rfl) (by kernel_rfl) (by kernel_rfl) (by kernel_rfl) ?hQ192009 ?hy192009 (by assumption) ?rest192009
      case hi192009 => (simp only [List.getElem?_toArray, List.getElem?_cons_succ, List.getElem?_cons_zero]; exact rfl)
      case hQ192009 => exact fun _ _ _ h => h
      case hy192009 => (refine Or.inl ⟨by kernel_rfl, ?_⟩; intro w hSw; (try dsimp only at hSw); go_simp; try (with_reducible rfl))
      try simp only [Act.put, List.setIfInBounds_toArray, List.set_cons_zero, List.set_cons_succ]
      refine wpP_take (i := 11) (oi := ?oi192010) (v := ?v192010) ?hi192010 (by kernel_rfl) (by kernel_rfl) (by kernel_rfl) (by kernel_rfl) ?hQ192010 ?hy192010 (by assumption) ?rest192010
      case hi192010 => (simp only [List.getElem?_toArray, List.getElem?_cons_succ, List.getElem?_cons_zero]; exact rfl)
      case hQ192010 => exact fun _ _ _ h => h
      case hy192010 => (refine Or.inl ⟨by kernel_rfl, ?_⟩; intro w hSw; (try dsimp only at hSw); go_simp; try (with_reducible rfl))
      try simp only [Act.put, List.setIfInBounds_toArray, List.set_cons_zero, List.set_cons_succ]
      refine wpP_take (i := 14) (oi := ?oi192011) (v := ?v192011) ?hi192011 (by kernel_rfl) (by kernel_rfl) (by kernel_rfl) (by kernel_rfl) ?hQ192011 ?hy192011 (by assumption) ?rest192011
      case hi192011 => (simp only [List.getElem?_toArray, List.getElem?_cons_succ, List.getElem?_cons_zero]; exact rfl)
      case hQ192011 => exact fun _ _ _ h => h
      case hy192011 => (refine Or.inl ⟨by kernel_rfl, ?_⟩; intro w hSw; (try dsimp only at hSw); go_simp; try (with_reducible rfl))
      try simp only [Act.put, List.setIfInBounds_toArray, List.set_cons_zero, List.set_cons_succ]
      refine wpP_ready (rs := [9]) (by kernel_rfl) (by simp) ?_
      refine AllP.cons (o := ?o192012) ?ho192012 (fun K hK => ?_) AllP.nil
      case ho192012 => (simp only [List.getElem?_toArray, List.getElem?_cons_succ, List.getElem?_cons_zero]; exact rfl)
      go_simp
      go_at_call 93
      refine (turn_ok _ _ _ S2.out (by omega)).mono ?_
      rintro e w3 ⟨rfl, k1⟩
      refine hK.out _ _ ?_ (fun hHeld => ?_)
      · exact ⟨cell_keep hHeld.1 k1, cell_keep hHeld.2 k1⟩
      clear hK K
      try simp only [Act.put, List.setIfInBounds_toArray, List.set_cons_zero, List.set_cons_succ]
      refine wpP_ready (rs := [10]) (by kernel_rfl) (by simp) ?_
      refine AllP.cons (o := ?o192013) ?ho192013 (fun K hK => ?_) AllP.nil
      case ho192013 => (simp only [List.getElem?_toArray, List.getElem?_cons_succ, List.getElem?_cons_zero]; exact rfl)
      go_simp
      go_at_call 135
      refine (with_ok _ _ v 2 _ _ ((HRW.out.below (Below.refl _ _).drew).below k1) (by omega)).mono ?_
      rintro e w4 ⟨g, rfl, hg1, hg, k2⟩
      refine hK.out _ _ ?_ (fun hHeld => ?_)
      · exact ⟨cell_keep hHeld.1 k2, cell_keep hHeld.2 k2⟩
      clear hK K
      try simp only [Act.put, List.setIfInBounds_toArray, List.set_cons_zero, List.set_cons_succ]
      refine wpP_ready (rs := [12]) (by kernel_rfl) (by simp) ?_
      refine AllP.cons (o := ?o192014) ?ho192014 (fun K hK => ?_) AllP.nil
      case ho192014 => (simp only [List.getElem?_toArray, List.getElem?_cons_succ, List.getElem?_cons_zero]; exact rfl)
      go_simp
      go_at_call 91
      refine (zeros_ok _).mono ?_
      rintro e w5 ⟨rfl, k3⟩
      refine hK.out _ _ ?_ (fun hHeld => ?_)
      · exact ⟨cell_keep hHeld.1 k3, cell_keep hHeld.2 k3⟩
      clear hK K
      try simp only [Act.put, List.setIfInBounds_toArray, List.set_cons_zero, List.set_cons_succ]
      refine wpP_ready (rs := [13]) (by kernel_rfl) (by simp) ?_
      refine AllP.cons (o := ?o192015) ?ho192015 (fun K hK => ?_) AllP.nil
      case ho192015 => (simp only [List.getElem?_toArray, List.getElem?_cons_succ, List.getElem?_cons_zero]; exact rfl)
      go_simp
      have hln : (v.set 2 (turn (bk v 2) k)).length = v.length := by simp
      go_at_call 135
      refine (with_as _ _ _ k _ _ v.length hln ((hg1.rs (by rw [hln]; exact hl)).below k3) (by rw [hln]; exact hlt)).mono ?_
      rintro e w6 ⟨g', rfl, hg2, hg', k4⟩
      refine hK.out _ _ ?_ (fun hHeld => ?_)
      · exact ⟨cell_keep hHeld.1 k4, cell_keep hHeld.2 k4⟩
      clear hK K
      try simp only [Act.put, List.setIfInBounds_toArray, List.set_cons_zero, List.set_cons_succ]
      refine wpP_take (i := 15) (oi := ?oi192016) (v := ?v192016) ?hi192016 (by kernel_rfl) (by kernel_rfl) (by kernel_rfl) (by kernel_rfl) ?hQ192016 ?hy192016 (by assumption) ?rest192016
      case hi192016 => (simp only [List.getElem?_toArray, List.getElem?_cons_succ, List.getElem?_cons_zero]; exact rfl)
      case hQ192016 => exact fun _ _ _ h => h
      case hy192016 => (refine Or.inl ⟨by kernel_rfl, ?_⟩; intro w hSw; (try dsimp only at hSw); go_simp; try (with_reducible rfl))
      try simp only [Act.put, List.setIfInBounds_toArray, List.set_cons_zero, List.set_cons_succ]
      refine wpP_take (i := 16) (oi := ?oi192017) (v := ?v192017) ?hi192017 (by kernel_rfl) (by kernel_rfl) (by kernel_rfl) (by kernel_rfl) ?hQ192017 ?hy192017 (by assumption) ?rest192017
      case hi192017 => (simp only [List.getElem?_toArray, List.getElem?_cons_succ, List.getElem?_cons_zero]; exact rfl)
      case hQ192017 => exact fun _ _ _ h => h
      case hy192017 => (refine Or.inl ⟨by kernel_rfl, ?_⟩; intro w hSw; (try dsimp only at hSw); go_simp; try (with_reducible rfl))
      try simp only [Act.put, List.setIfInBounds_toArray, List.set_cons_zero, List.set_cons_succ]
      refine wpP_take (i := 17) (oi := ?oi192018) (v := ?v192018) ?hi192018 (by kernel_rfl) (by kernel_rfl) (by kernel_rfl) (by kernel_rfl) ?hQ192018 ?hy192018 (by assumption) ?rest192018
      case hi192018 => (simp only [List.getElem?_toArray, List.getElem?_cons_succ, List.getElem?_cons_zero]; exact rfl)
      case hQ192018 => exact fun _ _ _ h => h
      case hy192018 => (refine Or.inl ⟨by kernel_rfl, ?_⟩; intro w hSw; (try dsimp only at hSw); go_simp; try (with_reducible rfl))
      try simp only [Act.put, List.setIfInBounds_toArray, List.set_cons_zero, List.set_cons_succ]
      refine wpP_done (by kernel_rfl) ?_ _
      go_wp2
      go_ret3
      refine ⟨_, _, rfl, hg2, ?_, ?_⟩
      · have := HB2.out.size; have := k1.size; have := k2.size; have := k3.size; have e0 : W0.drew.heap.size = W0.heap.size := rfl; omega
      · exact below_keep (below_keep (below_keep (below_keep HB2.out.drew (Nat.le_refl _) k1) (by omega) k2) (by omega) k3) (by omega) k4

set_option maxHeartbeats 2000000 in
theorem take_full (A : Option Addr) (c : Nat) (v : Vol) (w : World) (hr : RS w A v) (hv : okV v = true) (hi4 : ∀ j, dataV v ≤ j → j < v.length → bit (bk v 2) j = true) :
    Calls Try.prog 129 #[.slice A v.length c] w fun e w' => e = .returned (.tuple #[.slice none 0 0, .int .i64 0, .int .i64 10]) ∧ Below w.heap.size w w' := by
  have H := okV_iff.1 hv
  obtain ⟨h1, h2, h3, h4, h5, h6, h7, h8⟩ := H
  have hl := hr.1
  have HRR := Lib.hid hr
  obtain ⟨bA, oA, rfl, hbA, hc⟩ := hr.open_ (by omega)
  have hc2 := hc 2 (by omega)
  have S2 := Lib.hid (h1 2 (by omega))
  have HV := Lib.hid hv
  have i2 : (2 : Int) < (v.length : Nat) := by omega
  clear hr hc hv h1 h7 h8
  obtain ⟨d, hd⟩ : ∃ d, dataV v = d := ⟨_, rfl⟩
  have hdd : (3 + ((inosV v : Nat) + 1 : Int) / 2) = (d : Int) := by rw [← hd, dataV]; omega
  have hd' : d < v.length := by rw [← hd, dataV]; exact h6
  rw [hd] at hi4
  go_enter Try.func129, Try.ntmps129
  go_wp2_with (go_at_call 71; refine (of_ok _ _ _ _ HRR.out HV.out).mono ?_; rw [hdd]; rintro e w1 ⟨rfl, hb1⟩)
  have hb2 : Below w.heap.size w (w1.alloc (.cells #[.int .i64 v.length, .int .i64 (inosV v), .int .i64 1, .int .i64 2, .int .i64 3, .int .i64 d] 66)) := hb1.alloc hb1.size _
  obtain ⟨g0, g1, g2, g3, g4, g5⟩ := cells6 (blk_new w1 (.cells #[.int .i64 v.length, .int .i64 (inosV v), .int .i64 1, .int .i64 2, .int .i64 3, .int .i64 d] 66))
  generalize hW0 : w1.alloc (.cells #[.int .i64 v.length, .int .i64 (inosV v), .int .i64 1, .int .i64 2, .int .i64 3, .int .i64 d] 66) = W0 at *
  have d2 := cell_keep hc2 hb2
  have HR0 := HRR.out.below hb2
  have HB2 := Lib.hid hb2
  have HRW := Lib.hid HR0
  clear hW0 hb2 HR0
  go_wp2
  go_loop [7] (fun iv => ∃ k : Nat, d ≤ k ∧ k ≤ v.length ∧ iv = .int .i64 k) (fun iv => v.length - (intOf iv).toNat)
  case atStart => exact ⟨d, Nat.le_refl _, by omega, rfl⟩
  case round =>
    obtain ⟨k, hdk, hk, rfl⟩ := hrel
    by_cases hlt : k < v.length
    · have hb := hi4 k hdk hlt
      go_wp2_with (go_at_call 94; refine (has_ok _ _ _ S2.out (by omega)).mono ?_; rintro e w3 ⟨rfl, rfl⟩)
      refine ⟨⟨k + 1, by omega, by omega, by go_num⟩, by simp only [intOf]; omega⟩
    · clear hi4
      go_wp2
      go_ret3
      exact ⟨rfl, HB2.out⟩

set_option maxHeartbeats 1000000 in
theorem take_no (A : Option Addr) (c : Nat) (v : Vol) (w : World) (hr : RS w A v) (hv : okV v = false) :
    Calls Try.prog 129 #[.slice A v.length c] w fun e w' => e = .returned (.tuple #[.slice none 0 0, .int .i64 0, .int .i64 3]) ∧ Below w.heap.size w w' := by
  have HV := Lib.hid hv
  have HRR := Lib.hid hr
  clear hv hr
  go_enter Try.func129, Try.ntmps129
  go_wp2_with (go_at_call 71; refine (of_no _ _ _ _ HRR.out HV.out).mono ?_; rintro e w1 ⟨rfl, hb1⟩)
  go_ret3
  exact ⟨rfl, hb1.alloc hb1.size _⟩

set_option maxHeartbeats 2000000 in
theorem rtake_ok (A : Option Addr) (c : Nat) (v : Vol) (i : Nat) (w : World) (hr : RS w A v) (hv : okV v = true) (hi1 : dataV v ≤ i) (hi2 : i < v.length) (hi3 : bit (bk v 2) i = false) (hi4 : ∀ j, dataV v ≤ j → j < i → bit (bk v 2) j = true) :
    Calls Try.prog 130 #[.slice A v.length c] w fun e w' => ∃ g c', e = .returned (.tuple #[.slice (some ⟨g, 0, none⟩) v.length c', .int .i64 i, .int .i64 0]) ∧ VS w' g ((v.set 2 (turn (bk v 2) i)).set i (zs 128)) ∧ w.heap.size ≤ g ∧ Below w.heap.size w w' := by
  have H := okV_iff.1 hv
  obtain ⟨h1, h2, h3, h4, h5, h6, h7, h8⟩ := H
  have hl := hr.1
  have HRR := Lib.hid hr
  obtain ⟨bA, oA, rfl, hbA, hc⟩ := hr.open_ (by omega)
  have hc2 := hc 2 (by omega)
  have S2 := Lib.hid (h1 2 (by omega))
  have HV := Lib.hid hv
  have i2 : (2 : Int) < (v.length : Nat) := by omega
  clear hr hc hv h1 h7 h8
  obtain ⟨d, hd⟩ : ∃ d, dataV v = d := ⟨_, rfl⟩
  have hdd : (3 + ((inosV v : Nat) + 1 : Int) / 2) = (d : Int) := by rw [← hd, dataV]; omega
  have hd' : d < v.length := by rw [← hd, dataV]; exact h6
  rw [hd] at hi1 hi4
  go_enter Try.func130, Try.ntmps130
  go_wp2_with (go_at_call 46; refine (rof_ok _ _ _ _ HRR.out HV.out).mono ?_; rw [hdd]; rintro e w1 ⟨rfl, hb1⟩)
  have hb2 : Below w.heap.size w (w1.alloc (.cells #[.int .i64 v.length, .int .i64 (inosV v), .int .i64 1, .int .i64 2, .int .i64 3, .int .i64 d] 66)) := hb1.alloc hb1.size _
  obtain ⟨g0, g1, g2, g3, g4, g5⟩ := cells6 (blk_new w1 (.cells #[.int .i64 v.length, .int .i64 (inosV v), .int .i64 1, .int .i64 2, .int .i64 3, .int .i64 d] 66))
  generalize hW0 : w1.alloc (.cells #[.int .i64 v.length, .int .i64 (inosV v), .int .i64 1, .int .i64 2, .int .i64 3, .int .i64 d] 66) = W0 at *
  have d2 := cell_keep hc2 hb2
  have HR0 := HRR.out.below hb2
  have HB2 := Lib.hid hb2
  have HRW := Lib.hid HR0
  clear hW0 hb2 HR0
  go_wp2
  go_loop [7] (fun iv => ∃ k : Nat, d ≤ k ∧ k ≤ v.length ∧ iv = .int .i64 k ∧ k ≤ i) (fun iv => v.length - (intOf iv).toNat)
  case atStart => exact ⟨d, Nat.le_refl _, by omega, rfl, hi1⟩
  case round =>
    obtain ⟨k, hdk, hk, rfl, hki⟩ := hrel
    have hlt : k < v.length := by omega
    by_cases hb : bit (bk v 2) k = true
    · have hki' : k < i := by
        rcases Nat.lt_or_ge k i with h | h
        · exact h
        · have : k = i := by omega
          rw [this, hi3] at hb
          cases hb
      go_wp2_with (go_at_call 88; refine (rbit_ok _ _ _ S2.out (by omega)).mono ?_; rintro e w3 ⟨rfl, rfl⟩)
      refine ⟨⟨k + 1, by omega, by omega, by go_num, hki'⟩, by simp only [intOf]; omega⟩
    · have hb' : bit (bk v 2) k = false := by simpa using hb
      have hke : k = i := by
        rcases Nat.lt_or_ge k i with h | h
        · exact absurd (hi4 k hdk h) hb
        · omega
      subst hke
      clear hi4 hb hi3
      have hln : (v.set 2 (turn (bk v 2) k)).length = v.length := by simp
      go_wp2_with (first
        | (go_at_call 88; refine (rbit_ok _ _ _ S2.out (by omega)).mono ?_; rintro e w3 ⟨rfl, rfl⟩)
        | (go_at_call 118; refine (rturn_ok _ _ _ S2.out (by omega)).mono ?_; rintro e w3 ⟨rfl, k1⟩)
        | (go_at_call 117; refine (rwith_as _ _ _ k _ _ v.length hln (hg1.rs (by rw [hln]; exact hl)) (by rw [hln]; exact hlt)).mono ?_; rintro e w6 ⟨g', c2, rfl, hg2, hg', k4⟩)
        | (go_at_call 117; refine (rwith_ok _ _ v 2 _ _ (HRW.out.below k1) (by omega)).mono ?_; rintro e w4 ⟨g, c1, rfl, hg1, hg, k2⟩)
        | (go_at_call 120; refine (rzeros_ok 128 _ (by omega)).mono ?_; rintro e w5 ⟨rfl, rfl⟩))
      go_ret3
      refine ⟨_, _, rfl, hg2, ?_, ?_⟩
      · have := HB2.out.size; have := k1.size; have := k2.size; have e0 : W0.drew.heap.size = W0.heap.size := rfl; omega
      · exact below_keep (below_keep (below_keep HB2.out (by omega) k1) (by omega) k2) (by omega) k4

set_option maxHeartbeats 2000000 in
theorem rtake_full (A : Option Addr) (c : Nat) (v : Vol) (w : World) (hr : RS w A v) (hv : okV v = true) (hi4 : ∀ j, dataV v ≤ j → j < v.length → bit (bk v 2) j = true) :
    Calls Try.prog 130 #[.slice A v.length c] w fun e w' => e = .returned (.tuple #[.slice none 0 0, .int .i64 0, .int .i64 10]) ∧ Below w.heap.size w w' := by
  have H := okV_iff.1 hv
  obtain ⟨h1, h2, h3, h4, h5, h6, h7, h8⟩ := H
  have hl := hr.1
  have HRR := Lib.hid hr
  obtain ⟨bA, oA, rfl, hbA, hc⟩ := hr.open_ (by omega)
  have hc2 := hc 2 (by omega)
  have S2 := Lib.hid (h1 2 (by omega))
  have HV := Lib.hid hv
  have i2 : (2 : Int) < (v.length : Nat) := by omega
  clear hr hc hv h1 h7 h8
  obtain ⟨d, hd⟩ : ∃ d, dataV v = d := ⟨_, rfl⟩
  have hdd : (3 + ((inosV v : Nat) + 1 : Int) / 2) = (d : Int) := by rw [← hd, dataV]; omega
  have hd' : d < v.length := by rw [← hd, dataV]; exact h6
  rw [hd] at hi4
  go_enter Try.func130, Try.ntmps130
  go_wp2_with (go_at_call 46; refine (rof_ok _ _ _ _ HRR.out HV.out).mono ?_; rw [hdd]; rintro e w1 ⟨rfl, hb1⟩)
  have hb2 : Below w.heap.size w (w1.alloc (.cells #[.int .i64 v.length, .int .i64 (inosV v), .int .i64 1, .int .i64 2, .int .i64 3, .int .i64 d] 66)) := hb1.alloc hb1.size _
  obtain ⟨g0, g1, g2, g3, g4, g5⟩ := cells6 (blk_new w1 (.cells #[.int .i64 v.length, .int .i64 (inosV v), .int .i64 1, .int .i64 2, .int .i64 3, .int .i64 d] 66))
  generalize hW0 : w1.alloc (.cells #[.int .i64 v.length, .int .i64 (inosV v), .int .i64 1, .int .i64 2, .int .i64 3, .int .i64 d] 66) = W0 at *
  have d2 := cell_keep hc2 hb2
  have HR0 := HRR.out.below hb2
  have HB2 := Lib.hid hb2
  have HRW := Lib.hid HR0
  clear hW0 hb2 HR0
  go_wp2
  go_loop [7] (fun iv => ∃ k : Nat, d ≤ k ∧ k ≤ v.length ∧ iv = .int .i64 k) (fun iv => v.length - (intOf iv).toNat)
  case atStart => exact ⟨d, Nat.le_refl _, by omega, rfl⟩
  case round =>
    obtain ⟨k, hdk, hk, rfl⟩ := hrel
    by_cases hlt : k < v.length
    · have hb := hi4 k hdk hlt
      go_wp2_with (go_at_call 88; refine (rbit_ok _ _ _ S2.out (by omega)).mono ?_; rintro e w3 ⟨rfl, rfl⟩)
      refine ⟨⟨k + 1, by omega, by omega, by go_num⟩, by simp only [intOf]; omega⟩
    · clear hi4
      go_wp2
      go_ret3
      exact ⟨rfl, HB2.out⟩

set_option maxHeartbeats 1000000 in
theorem rtake_no (A : Option Addr) (c : Nat) (v : Vol) (w : World) (hr : RS w A v) (hv : okV v = false) :
    Calls Try.prog 130 #[.slice A v.length c] w fun e w' => e = .returned (.tuple #[.slice none 0 0, .int .i64 0, .int .i64 3]) ∧ Below w.heap.size w w' := by
  have HV := Lib.hid hv
  have HRR := Lib.hid hr
  clear hv hr
  go_enter Try.func130, Try.ntmps130
  go_wp2_with (go_at_call 46; refine (rof_no _ _ _ _ HRR.out HV.out).mono ?_; rintro e w1 ⟨rfl, hb1⟩)
  go_ret3
  exact ⟨rfl, hb1.alloc hb1.size _⟩
end Go.Proofs.Ytacdohlhalnioaa
end

/- Contract: a volume without anything (the program's). -/
section
set_option linter.unusedSimpArgs false
set_option linter.unusedVariables false
set_option maxRecDepth 20000
namespace Go.Proofs.Ytacdohlhalnioaa
open Go.RowKit
attribute [local go_sem] Oper.semAt_some

def turns (d : Nat) : Blk := (List.range d).foldl turn (zs 128)
theorem turns_succ (d : Nat) : turns (d + 1) = turn (turns d) d := by simp [turns, List.range_succ]
@[simp] theorem turns_length (d : Nat) : (turns d).length = 128 := by
  induction d with
  | zero => simp [turns]
  | succ d ih => rw [turns_succ, turn_length, ih]
theorem set_bk (v : Vol) (i : Nat) (h : i < v.length) : v.set i (bk v i) = v := by rw [← bk_get v i h]; exact List.set_getElem_self h
/-- A fresh volume. -/
def fmtV (b i : Nat) : Vol := ((List.replicate b (zs 128)).set 0 (firstB b i)).set 2 (turns (3 + (i + 1) / 2))
def fill (n k : Nat) : Vol := List.replicate k (zs 128) ++ List.replicate (n - k) []
theorem fill_length (n k : Nat) (h : k ≤ n) : (fill n k).length = n := by simp [fill]; omega
theorem fill_set (n k : Nat) (h : k < n) : (fill n k).set k (zs 128) = fill n (k + 1) := by
  have e : n - k = n - (k + 1) + 1 := by omega
  rw [fill, fill, List.set_append_right _ _ (by simp), e, List.replicate_succ, List.length_replicate, Nat.sub_self, List.set_cons_zero, List.replicate_succ', List.append_assoc]
  rfl
theorem fill_all (n : Nat) : fill n n = List.replicate n (zs 128) := by simp [fill]

set_option maxHeartbeats 4000000 in
theorem format_ok (b i : Nat) (w : World) (h : planE b i = 0) :
    Calls Try.prog 48 #[.int .i64 b, .int .i64 i] w fun e w' => ∃ g, e = .returned (.tuple #[.slice (some ⟨g, 0, none⟩) b b, .int .i64 0]) ∧ VS w' g (fmtV b i) ∧ w.heap.size ≤ g ∧ Below w.heap.size w w' := by
  obtain ⟨h1, h2, h3, h4, h5⟩ := planE_ok h
  have hmk := mk_strs b (by omega)
  obtain ⟨d, hd⟩ : ∃ d, 3 + (i + 1) / 2 = d := ⟨_, rfl⟩
  have hdd : (3 + ((i : Nat) + 1 : Int) / 2) = (d : Int) := by omega
  have hf : fmtV b i = ((List.replicate b (zs 128)).set 0 (firstB b i)).set 2 (turns d) := by rw [fmtV, hd]
  have hd1 : d < b := by omega
  rw [hf]
  have HP := Lib.hid h
  clear h hf hd
  go_enter Try.func48, Try.ntmps48
  go_wp2_with (go_at_call 90; refine (plan_ok b i _ (by omega) (by omega) HP.out).mono ?_; rw [hdd]; rintro e w1 ⟨rfl, hb1⟩)
  obtain ⟨G, hG⟩ : ∃ G, Obj.cells #[.int .i64 (b : Int), .int .i64 (i : Int), .int .i64 1, .int .i64 2, .int .i64 3, .int .i64 (d : Int)] 66 = G := ⟨_, rfl⟩
  have hv0 : VS ((w1.alloc G).alloc (.cells (strs (List.replicate b [])).toArray 9)) (w1.heap.size + 1) (fill b 0) :=
    ⟨_, heap_alloc_at _ _ _ (by simp), fun j hj => by rw [List.getElem?_toArray]; exact strs_get (List.replicate b []) j (by simpa [fill] using hj)⟩
  have hg0 : ((w1.alloc G).alloc (.cells (strs (List.replicate b [])).toArray 9)).heap[w1.heap.size]? = some G := heap_alloc_lt _ _ _ _ (blk_new w1 G)
  have hB0 : Below w.heap.size w ((w1.alloc G).alloc (.cells (strs (List.replicate b [])).toArray 9)) := (hb1.alloc hb1.size _).alloc (by have := hb1.size; simp; omega) _
  rw [hG]
  generalize (w1.alloc G).alloc (.cells (strs (List.replicate b [])).toArray 9) = W0 at *
  have hsz := hb1.size
  generalize w1.heap.size = gg at *
  have HMK := Lib.hid hmk
  clear hb1 hmk
  have HV0 := Lib.hid hv0
  have HG0 := Lib.hid hg0
  have HB0 := Lib.hid hB0
  clear hv0 hg0 hB0
  go_loopw [9, 24] (fun _ iv wr => ∃ k : Nat, k ≤ b ∧ iv = .int .i64 k ∧ Hid (VS wr (gg + 1) (fill b k)) ∧ Hid (wr.heap[gg]? = some G) ∧ Below w.heap.size w wr) (fun _ iv _ => b - (intOf iv).toNat)
  case atStart => exact ⟨0, Nat.zero_le _, rfl, HV0, HG0, HB0.out⟩
  case round =>
    obtain ⟨k, hk, rfl, hv, hg, hB⟩ := hrel
    by_cases hlt : k < b
    · have hlf := fill_length b k hk
      go_wp2_with (go_at_call 91; refine (zeros_ok _).mono ?_; rintro e w2 ⟨rfl, hb2⟩; have hv2 := hv.out.keep hb2; have c1 := hv2.cell k (by rw [hlf]; exact hlt); have f1 := hv2.free k; have HV2 := Lib.hid hv2; clear hv2)
      refine ⟨⟨k + 1, by omega, by go_num, ?_, ?_, ?_⟩, by simp only [intOf]; omega⟩
      · show VS _ _ _
        rw [← fill_set b k hlt]
        exact HV2.out.set k _ (by rw [hlf]; exact hlt)
      · exact blk_set_other (blk_keep hg.out hb2) (by omega) _ _
      · exact below_set (below_keep hB (Nat.le_refl _) hb2) (by omega)
    · obtain rfl : k = b := by omega
      have hgc := hg.out
      rw [← hG] at hgc
      obtain ⟨g0, g1, g2, g3, g4, g5⟩ := cells6 hgc
      have hlf := fill_length k k hk
      clear hgc
      go_wp2_with (go_at_call 92; refine (first_ok _ _ _ _ _ _ _ (by omega) (by omega)).mono ?_; rintro e w2 ⟨rfl, hb2⟩; have hv2 := hv.out.keep hb2; have c1 := hv2.cell 0 (by rw [hlf]; omega); have f1 := hv2.free 0; have e5 := cell_keep g5 hb2; have e3 := cell_keep g3 hb2; have HG2 := Lib.hid (blk_keep hg.out hb2); have HB2 := Lib.hid (below_keep hB (Nat.le_refl _) hb2); have HV2 := Lib.hid hv2; clear hv2 hb2 g0 g1 g2 g3 g4 g5)
      have hv3 := HV2.out.set 0 (firstB k i) (by rw [hlf]; omega)
      have hg3 := blk_set_other (i := 0) (u := .string (mk (firstB k i))) HG2.out (show gg ≠ gg + 1 by omega)
      have hB3 := below_set (i := 0) (u := .string (mk (firstB k i))) HB2.out (show w.heap.size ≤ gg + 1 by omega)
      rw [fill_all] at hv3
      have hL : ((List.replicate k (zs 128)).set 0 (firstB k i)).length = k := by simp
      have hbk2 : bk ((List.replicate k (zs 128)).set 0 (firstB k i)) 2 = turns 0 := by
        rw [bk_set_other _ _ _ _ (by omega)]
        simp [bk, List.getD_eq_getElem?_getD, List.getElem?_replicate, show 2 < k from by omega, turns]
      obtain ⟨v0, hve⟩ : ∃ v0, (List.replicate k (zs 128)).set 0 (firstB k i) = v0 := ⟨_, rfl⟩
      rw [hve] at hv3 hL hbk2
      have HE := Lib.hid hve
      clear hve
      have hv00 : v0.set 2 (turns 0) = v0 := by rw [← hbk2]; exact set_bk v0 2 (by omega)
      rw [← hv00] at hv3
      clear hbk2 hv00
      have HV3 := Lib.hid hv3
      have HG3 := Lib.hid hg3
      have HB3 := Lib.hid hB3
      clear hv3 hg3 hB3
      go_loopw [10, 38] (fun _ iv wr => ∃ j : Nat, j ≤ d ∧ iv = .int .i64 j ∧ Hid (VS wr (gg + 1) (v0.set 2 (turns j))) ∧ Hid (wr.heap[gg]? = some G) ∧ Hid (Below w.heap.size w wr)) (fun _ iv _ => d - (intOf iv).toNat)
      case atStart => exact ⟨0, Nat.zero_le _, rfl, HV3, HG3, HB3⟩
      case round =>
        obtain ⟨j, hj, rfl, hv', hg', hB'⟩ := hrel
        by_cases hlt2 : j < d
        · have hLs : (v0.set 2 (turns j)).length = k := by rw [List.length_set]; exact hL
          have ht : bk (v0.set 2 (turns j)) 2 = turns j := bk_set_same _ _ _ (by omega)
          have hgc := hg'.out
          rw [← hG] at hgc
          obtain ⟨g0, g1, g2, g3, g4, g5⟩ := cells6 hgc
          have c2 := hv'.out.cell 2 (by omega)
          rw [ht] at c2
          have i2 : (2 : Int) < (k : Nat) := by omega
          have f2 := hv'.out.free 2
          have HT := Lib.hid ht
          clear hgc g0 g1 g2 g4 g5 ht
          go_wp2
          refine region_P (fun w' => w'.cell? ⟨gg, 3, none⟩ = some (.int .i64 2) ∧ w'.cell? ⟨gg + 1, 2, none⟩ = some (.string (mk (turns j)))) [11] (by kernel_rfl) ?_ (fun hHeld => ?_)
          · exact ⟨g3, c2⟩
          refine wpP_take (i := 0) (oi := ?oi474001) (v := ?v474001) ?hi474001 (by kernel_rfl) (by kernel_rfl) (by kernel_rfl) (by kernel_rfl) ?hQ474001 ?hy474001 (by assumption) ?rest474001
          case hi474001 => (simp only [List.getElem?_toArray, List.getElem?_cons_succ, List.getElem?_cons_zero]; exact rfl)
          case hQ474001 => exact fun _ _ _ h => h
          case hy474001 => (refine Or.inl ⟨by kernel_rfl, ?_⟩; intro w hSw; (try dsimp only at hSw); go_simp; try (with_reducible rfl))
          try simp only [Act.put, List.setIfInBounds_toArray, List.set_cons_zero, List.set_cons_succ]
          refine wpP_take (i := 1) (oi := ?oi474002) (v := ?v474002) ?hi474002 (by kernel_rfl) (by kernel_rfl) (by kernel_rfl) (by kernel_rfl) ?hQ474002 ?hy474002 (by assumption) ?rest474002
          case hi474002 => (simp only [List.getElem?_toArray, List.getElem?_cons_succ, List.getElem?_cons_zero]; exact rfl)
          case hQ474002 => exact fun _ _ _ h => h
          case hy474002 => (refine Or.inl ⟨by kernel_rfl, ?_⟩; intro w hSw; (try dsimp only at hSw); go_simp; try (with_reducible rfl))
          try simp only [Act.put, List.setIfInBounds_toArray, List.set_cons_zero, List.set_cons_succ]
          refine wpP_take (i := 2) (oi := ?oi474003) (v := ?v474003) ?hi474003 (by kernel_rfl) (by kernel_rfl) (by kernel_rfl) (by kernel_rfl) ?hQ474003 ?hy474003 (by assumption) ?rest474003
          case hi474003 => (simp only [List.getElem?_toArray, List.getElem?_cons_succ, List.getElem?_cons_zero]; exact rfl)
          case hQ474003 => exact fun _ _ _ h => h
          case hy474003 => (refine Or.inl ⟨by kernel_rfl, ?_⟩; intro w hSw; (try dsimp only at hSw); go_simp; try (with_reducible rfl))
          try simp only [Act.put, List.setIfInBounds_toArray, List.set_cons_zero, List.set_cons_succ]
          refine wpP_take (i := 3) (oi := ?oi474004) (v := ?v474004) ?hi474004 (by kernel_rfl) (by kernel_rfl) (by kernel_rfl) (by kernel_rfl) ?hQ474004 ?hy474004 (by assumption) ?rest474004
          case hi474004 => (simp only [List.getElem?_toArray, List.getElem?_cons_succ, List.getElem?_cons_zero]; exact rfl)
          case hQ474004 => exact fun _ _ _ h => h
          case hy474004 => (refine Or.inl ⟨by kernel_rfl, ?_⟩; intro w hSw; (try dsimp only at hSw); go_simp; try (with_reducible rfl))
          try simp only [Act.put, List.setIfInBounds_toArray, List.set_cons_zero, List.set_cons_succ]
          refine wpP_take (i := 4) (oi := ?oi474005) (v := ?v474005) ?hi474005 (by kernel_rfl) (by kernel_rfl) (by kernel_rfl) (by kernel_rfl) ?hQ474005 ?hy474005 (by assumption) ?rest474005
          case hi474005 => (simp only [List.getElem?_toArray, List.getElem?_cons_succ, List.getElem?_cons_zero]; exact rfl)
          case hQ474005 => exact fun _ _ _ h => h
          case hy474005 => (refine Or.inl ⟨by kernel_rfl, ?_⟩; intro w hSw; (try dsimp only at hSw); go_simp; try (with_reducible rfl))
          try simp only [Act.put, List.setIfInBounds_toArray, List.set_cons_zero, List.set_cons_succ]
          refine wpP_take (i := 5) (oi := ?oi474006) (v := ?v474006) ?hi474006 (by kernel_rfl) (by kernel_rfl) (by kernel_rfl) (by kernel_rfl) ?hQ474006 ?hy474006 (by assumption) ?rest474006
          case hi474006 => (simp only [List.getElem?_toArray, List.getElem?_cons_succ, List.getElem?_cons_zero]; exact rfl)
          case hQ474006 => exact fun _ _ _ h => h
          case hy474006 => (refine Or.inl ⟨by kernel_rfl, ?_⟩; intro w hSw; (try dsimp only at hSw); go_simp; try (with_reducible rfl))
          try simp only [Act.put, List.setIfInBounds_toArray, List.set_cons_zero, List.set_cons_succ]
          refine wpP_take (i := 6) (oi := ?oi474007) (v := ?v474007) ?hi474007 (by kernel_rfl) (by kernel_rfl) (by kernel_rfl) (by kernel_rfl) ?hQ474007 ?hy474007 (by assumption) ?rest474007
          case hi474007 => (simp only [List.getElem?_toArray, List.getElem?_cons_succ, List.getElem?_cons_zero]; exact rfl)
          case hQ474007 => exact fun _ _ _ h => h
          case hy474007 => (refine Or.inl ⟨by kernel_rfl, ?_⟩; intro w hSw; (try dsimp only at hSw); go_simp; try (with_reducible rfl))
          try simp only [Act.put, List.setIfInBounds_toArray, List.set_cons_zero, List.set_cons_succ]
          refine wpP_take (i := 7) (oi := ?oi474008) (v := ?v474008) ?hi474008 (by kernel_rfl) (by kernel_rfl) (by kernel_rfl) (by kernel_rfl) ?hQ474008 ?hy474008 (by assumption) ?rest474008
          case hi474008 => (simp only [List.getElem?_toArray, List.getElem?_cons_succ, List.getElem?_cons_zero]; exact rfl)
          case hQ474008 => exact fun _ _ _ h => h
          case hy474008 => (refine Or.inl ⟨by kernel_rfl, ?_⟩; intro w hSw; (try dsimp only at hSw); go_simp; try (with_reducible rfl))
          try simp only [Act.put, List.setIfInBounds_toArray, List.set_cons_zero, List.set_cons_succ]
          refine wpP_take (i := 8) (oi := ?oi474009) (v := ?v474009) ?hi474009 (by kernel_rfl) (by kernel_rfl) (by kernel_rfl) (by kernel_rfl) ?hQ474009 ?hy474009 (by assumption) ?rest474009
          case hi474009 => (simp only [List.getElem?_toArray, List.getElem?_cons_succ, List.getElem?_cons_zero]; exact rfl)
          case hQ474009 => exact fun _ _ _ h => h
          case hy474009 => (refine Or.inl ⟨by kernel_rfl, ?_⟩; intro w hSw; (try dsimp only at hSw); go_simp; try (with_reducible rfl))
          try simp only [Act.put, List.setIfInBounds_toArray, List.set_cons_zero, List.set_cons_succ]
          refine wpP_ready (rs := [9]) (by kernel_rfl) (by simp) ?_
          refine AllP.cons (o := ?o474010) ?ho474010 (fun K hK => ?_) AllP.nil
          case ho474010 => (simp only [List.getElem?_toArray, List.getElem?_cons_succ, List.getElem?_cons_zero]; exact rfl)
          go_simp
          go_at_call 93
          refine (turn_ok _ _ _ (by simp) (by omega)).mono ?_
          rintro e w4 ⟨rfl, k1⟩
          have hv4 := hv'.out.keep (below_und k1)
          have f4 := hv4.free 2
          refine hK.out _ _ ?_ (fun hHeld => ?_)
          · exact ⟨cell_keep hHeld.1 k1, cell_keep hHeld.2 k1⟩
          clear hK K
          try simp only [Act.put, List.setIfInBounds_toArray, List.set_cons_zero, List.set_cons_succ]
          refine wpP_take (i := 10) (oi := ?oi474011) (v := ?v474011) ?hi474011 (by kernel_rfl) (by kernel_rfl) (by kernel_rfl) (by kernel_rfl) ?hQ474011 ?hy474011 (by assumption) ?rest474011
          case hi474011 => (simp only [List.getElem?_toArray, List.getElem?_cons_succ, List.getElem?_cons_zero]; exact rfl)
          case hQ474011 => exact fun _ _ _ h => h
          case hy474011 => (refine Or.inl ⟨by kernel_rfl, ?_⟩; intro w hSw; (try dsimp only at hSw); go_simp; try (with_reducible rfl))
          try simp only [Act.put, List.setIfInBounds_toArray, List.set_cons_zero, List.set_cons_succ]
          refine wpP_ready (rs := [11]) (by kernel_rfl) (by simp) ?_
          refine AllP.last (o := ?o474012) ?ho474012 (by kernel_rfl) (fun K hK => ?_) AllP.nil
          case ho474012 => (simp only [List.getElem?_toArray, List.getElem?_cons_succ, List.getElem?_cons_zero]; exact rfl)
          go_simp
          refine hK.out _ _ ?_
          clear hK K
          try simp only [Act.put, List.setIfInBounds_toArray, List.set_cons_zero, List.set_cons_succ]
          refine wpP_done (by kernel_rfl) ?_ _
          go_wp2
          refine ⟨⟨j + 1, by omega, by go_num, ?_, ?_, ?_⟩, by simp only [intOf]; omega⟩
          · have := hv4.set 2 (turns (j + 1)) (by omega)
            rw [List.set_set] at this
            rw [← turns_succ]
            exact this
          · exact blk_set_other (blk_keep hg'.out (below_und k1)) (by omega) _ _
          · exact below_set (below_keep hB'.out (Nat.le_refl _) (below_und k1)) (by omega)
        · obtain rfl : j = d := by omega
          go_wp2
          go_ret2
          exact ⟨_, rfl, (by rw [HE.out]; exact hv'.out), by omega, hB'.out⟩
end Go.Proofs.Ytacdohlhalnioaa
end

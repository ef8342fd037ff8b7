/- An inode's bytes, and an inode of bytes (the program's). -/
import Derived.Test.YtacdohlhalnioaaI1
set_option linter.unusedVariables false
set_option maxRecDepth 20000
namespace Go.Proofs.Ytacdohlhalnioaa
open Go.RowKit Go.Shelf
attribute [local go_sem] Oper.semAt_some

/-- Numbers as cells. -/
def xcells (l : List Nat) : Array Value := (l.map fun (n : Nat) => Value.int .i64 (n : Int)).toArray
theorem xcells_set (l : List Nat) (i n : Nat) : (xcells l).setIfInBounds i (.int .i64 (n : Int)) = xcells (l.set i n) := by
  simp [xcells, List.map_set]
theorem xcells_get (l : List Nat) (i : Nat) (h : i < l.length) : (xcells l)[i]? = some (.int .i64 ((l.getD i 0 : Nat) : Int)) := by
  simp [xcells, h]
/-- One field more is read. -/
def fstep (st : List Nat × Blk) (k : Nat) : List Nat × Blk := (st.1.set (foff k) (le (st.2.take (fsz k))), st.2.drop (fsz k))
def fst_ (s : Blk) (pre : List (Fin 12)) : List Nat × Blk := (pre.map fun k => k.val).foldl fstep (List.replicate 12 0, s)
theorem fst_snoc (s : Blk) (pre : List (Fin 12)) (k : Fin 12) : fst_ s (pre ++ [k]) = fstep (fst_ s pre) k := by simp [fst_]
theorem fold_len (pre : List Nat) : ∀ st : List Nat × Blk, (pre.foldl fstep st).1.length = st.1.length := by
  induction pre with
  | nil => intro st; rfl
  | cons k pre ih => intro st; rw [List.foldl_cons, ih]; simp [fstep]
theorem fst_len (s : Blk) (pre : List (Fin 12)) : (fst_ s pre).1.length = 12 := by rw [fst_, fold_len]; rfl
theorem fsz_le (k : Nat) : fsz k ≤ 4 := by unfold fsz; split <;> (try split) <;> omega
theorem foff_lt (k : Fin 12) : foff k < 12 := by
  have := k.isLt
  unfold foff; split <;> (try split) <;> omega
theorem fold_rest (pre : List Nat) : ∀ st : List Nat × Blk, st.2.length ≤ (pre.foldl fstep st).2.length + 4 * pre.length := by
  induction pre with
  | nil => intro st; simp
  | cons k pre ih =>
    intro st
    rw [List.foldl_cons]
    have h := ih (fstep st k)
    have := fsz_le k
    simp only [fstep, List.length_drop, List.length_cons] at h ⊢
    omega
theorem fst_rest (s : Blk) (pre : List (Fin 12)) : s.length ≤ (fst_ s pre).2.length + 4 * pre.length := by
  have := fold_rest (pre.map fun k => k.val) (List.replicate 12 0, s)
  simpa [fst_] using this
/-- What an inode holds. -/
structure Ino where
  kind : Nat
  links : Nat
  owner : Nat
  size : Nat
  d0 : Nat
  d1 : Nat
  d2 : Nat
  d3 : Nat
  d4 : Nat
  d5 : Nat
  ind : Nat
  ext : Nat
  deriving DecidableEq
def Ino.list (x : Ino) : List Nat := [x.kind, x.links, x.owner, x.size, x.d0, x.d1, x.d2, x.d3, x.d4, x.d5, x.ind, x.ext]
/-- The inode of bytes. -/
def inoOf (s : Blk) : Ino := { kind := gb s 0, owner := gb s 1, links := w2 s 2, size := w2 s 4 + 65536 * w2 s 6, d0 := w2 s 8, d1 := w2 s 10, d2 := w2 s 12, d3 := w2 s 14, d4 := w2 s 16, d5 := w2 s 18, ind := w2 s 20, ext := w2 s 22 }
theorem fst_all (s : Blk) (h : s.length = 64) : (fst_ s (List.finRange 12)).1 = (inoOf s).list := by
  have e : (List.finRange 12).map (fun k => k.val) = [0, 1, 2, 3, 4, 5, 6, 7, 8, 9, 10, 11] := by decide
  obtain ⟨s0, s1, s2, s3, s4, s5, s6, s7, s8, s9, s10, s11, s12, s13, s14, s15, s16, s17, s18, s19, s20, s21, s22, s23, r, rfl⟩ : ∃ s0 s1 s2 s3 s4 s5 s6 s7 s8 s9 s10 s11 s12 s13 s14 s15 s16 s17 s18 s19 s20 s21 s22 s23 r, s = s0 :: s1 :: s2 :: s3 :: s4 :: s5 :: s6 :: s7 :: s8 :: s9 :: s10 :: s11 :: s12 :: s13 :: s14 :: s15 :: s16 :: s17 :: s18 :: s19 :: s20 :: s21 :: s22 :: s23 :: r := by
    iterate 24 (rcases s with _ | ⟨_, s⟩; · (simp at h; try omega))
    exact ⟨_, _, _, _, _, _, _, _, _, _, _, _, _, _, _, _, _, _, _, _, _, _, _, _, _, rfl⟩
  rw [fst_, e]
  simp [fstep, foff, fsz, le, Ino.list, inoOf, gb, w2]
  omega

set_option maxHeartbeats 2000000 in
theorem iof_ok (s : Blk) (w : World) (hs : s.length = 64) :
    Calls Try.prog 73 #[.string (mk s)] w fun e w' => e = .returned (.agg (xcells (inoOf s).list)) ∧ Below w.heap.size w w' := by
  refine callsIn_wide.1 (callsIn_of_wp_marks (n := 3) Try.func73 rfl trivial (wpIn_wide.2 ?_) rfl)
  simp only [Try.ntmps73, List.size_toArray, List.length_cons, List.length_nil, Nat.reduceAdd, Nat.reduceSub, Array.replicate_succ, Array.replicate_zero, List.push_toArray, List.append_toArray, List.nil_append, List.cons_append]
  go_wp2_with (go_at_call 107; refine (fields_ok (w.heap.size + 2) _).mono ?_; rintro e w' ⟨rfl, rfl⟩)
  obtain ⟨W0, hW0⟩ : ∃ W0, (((w.alloc (.cells #[.string (mk s)] 9)).alloc (.cells (xcells (List.replicate 12 0)) 45)).alloc (.cells (xcells (List.replicate 12 0)) 45)).alloc (.cells #[.pointer (some ⟨w.heap.size + 2, 0, none⟩)] 134) = W0 := ⟨_, rfl⟩
  obtain ⟨k0, k1, k2, k3, hsz, hB0⟩ := alloc4 _ _ _ _ _ _ hW0
  simp only [xcells, List.replicate, List.map] at hW0
  simp only [Int.natCast_zero] at hW0
  rw [hW0]
  clear hW0
  refine wp_rangeFunc (α := Fin 12) (gf := 128) (lb := #[.pointer (some ⟨w.heap.size + 3, 0, none⟩)]) rfl (enters_of Try.func128 (by kernel_rfl) rfl)
    (fields_stops 2 (w.heap.size + 2) (w.heap.size + 3) (fun k => k = w.heap.size ∨ k = w.heap.size + 2) W0 (by rw [cell_at k3]; rfl) (by intro k hk; omega)) (fun _ => rfl)
    (fun pre W => W.heap[w.heap.size + 2]? = some (.cells (xcells (fst_ s pre).1) 45 (0, 0)) ∧ W.heap[w.heap.size]? = some (.cells #[.string (mk (fst_ s pre).2)] 9 (0, 0)) ∧ W.heap[w.heap.size + 1]? = some (.cells (xcells (List.replicate 12 0)) 45 (0, 0)) ∧ Below w.heap.size w W)
    (fun _ _ _ => False)
    ?own (fun _ _ _ _ _ hs _ _ => hs) ⟨k2, k0, k1, hB0⟩
    (fun k => { tmps := #[.string (mk s), .pointer (some ⟨w.heap.size, 0, none⟩), .pointer (some ⟨w.heap.size + 1, 0, none⟩), .pointer (some ⟨w.heap.size + 2, 0, none⟩), .pointer (some ⟨w.heap.size + 2, foff k, none⟩), .int .i64 (fsz k : Nat), .func (.func 128) #[] #[.pointer (some ⟨w.heap.size + 3, 0, none⟩)], .pointer (some ⟨w.heap.size + 2, foff k, none⟩), .int .i64 (fsz k : Nat), undef, undef, undef, undef, undef, undef, undef, undef, undef, undef, undef], defers := [] }) ?assign ?body ?done ?stop
  case own =>
    intro pre A B row hs hg hr
    obtain ⟨h1, h2, h3, h4⟩ := hs
    have hr' : ∀ r, row = some r → ∃ o : Obj, A.heap[r]? = some o ∧ o.isCells = false := fun r e => (hr r e).2
    exact ⟨cells_grown h1 hg hr', cells_grown h2 hg hr', cells_grown h3 hg hr', h4.grown hg (by have := (Array.getElem?_eq_some_iff.1 h1).1; omega) (fun r e => by have := (hr r e).1; omega)⟩
  case assign =>
    intro l k W K hK
    gi_wp2
    exact hK
  case body =>
    rintro l pre k W ⟨h1, h2, h3, hB⟩ hlen
    have hrest := fst_rest s pre
    have hz4 := fsz_le k
    have hof := foff_lt k
    have hcx : W.cell? ⟨w.heap.size + 2, foff k, none⟩ = some (.int .i64 (((fst_ s pre).1.getD (foff k) 0 : Nat) : Int)) := by
      rw [cell_at h1, xcells_get _ _ (by rw [fst_len]; exact hof)]
    have hcs : W.cell? ⟨w.heap.size, 0, none⟩ = some (.string (mk (fst_ s pre).2)) := by rw [cell_at h2]; rfl
    have hfx := free_of h1 (foff k)
    have hfs := free_of h2 0
    have hb1 : (fsz k : Int) ≤ ((fst_ s pre).2.length : Nat) := by omega
    have hb2 : fsz k ≤ (fst_ s pre).2.length := by omega
    have hb0 : (0 : Int) ≤ (fsz k : Nat) := by omega
    have hle : le ((fst_ s pre).2.take (fsz k)) < 4294967296 := by
      have h := le_lt ((fst_ s pre).2.take (fsz k))
      rw [List.length_take] at h
      have : 256 ^ (min (fsz k) (fst_ s pre).2.length) ≤ 256 ^ 4 := Nat.pow_le_pow_right (by omega) (by omega)
      omega
    have hwr : IntKind.i64.wrap ((le ((fst_ s pre).2.take (fsz k)) : Nat) : Int) = ((le ((fst_ s pre).2.take (fsz k)) : Nat) : Int) := by
      simp [IntKind.wrap, IntKind.bits, IntKind.signed]; omega
    have H1 := Lib.hid h1
    have H2 := Lib.hid h2
    have H3 := Lib.hid h3
    clear h1 h2 h3
    gi_wp2
    refine region_P_in_round (fun w' => w'.cell? ⟨w.heap.size, 0, none⟩ = some (.string (mk (fst_ s pre).2))) [11] (by kernel_rfl) (by kernel_rfl) (fun _ _ h => h) ?_ (fun hHeld => ?_)
    · exact (by simp [hcs])
    refine wpP_take (i := 0) (oi := ?oi1001) (v := ?v1001) ?hi1001 (by kernel_rfl) (by kernel_rfl) (by kernel_rfl) (by kernel_rfl) ?hQ1001 ?hy1001 (by assumption) ?rest1001
    case hi1001 => (simp only [List.getElem?_toArray, List.getElem?_cons_succ, List.getElem?_cons_zero]; exact rfl)
    case hQ1001 => exact fun _ _ _ h => h
    case hy1001 => (refine Or.inl ⟨by kernel_rfl, ?_⟩; intro w hSw; (try dsimp only at hSw); go_simp; try (with_reducible rfl))
    try simp only [Act.put, List.setIfInBounds_toArray, List.set_cons_zero, List.set_cons_succ]
    refine wpP_take (i := 1) (oi := ?oi1002) (v := ?v1002) ?hi1002 (by kernel_rfl) (by kernel_rfl) (by kernel_rfl) (by kernel_rfl) ?hQ1002 ?hy1002 (by assumption) ?rest1002
    case hi1002 => (simp only [List.getElem?_toArray, List.getElem?_cons_succ, List.getElem?_cons_zero]; exact rfl)
    case hQ1002 => exact fun _ _ _ h => h
    case hy1002 => (refine Or.inl ⟨by kernel_rfl, ?_⟩; intro w hSw; (try dsimp only at hSw); go_simp; try (with_reducible rfl))
    try simp only [Act.put, List.setIfInBounds_toArray, List.set_cons_zero, List.set_cons_succ]
    refine wpP_take (i := 2) (oi := ?oi1003) (v := ?v1003) ?hi1003 (by kernel_rfl) (by kernel_rfl) (by kernel_rfl) (by kernel_rfl) ?hQ1003 ?hy1003 (by assumption) ?rest1003
    case hi1003 => (simp only [List.getElem?_toArray, List.getElem?_cons_succ, List.getElem?_cons_zero]; exact rfl)
    case hQ1003 => exact fun _ _ _ h => h
    case hy1003 => (refine Or.inl ⟨by kernel_rfl, ?_⟩; intro w hSw; (try dsimp only at hSw); go_simp; try (with_reducible rfl))
    try simp only [Act.put, List.setIfInBounds_toArray, List.set_cons_zero, List.set_cons_succ]
    refine wpP_take (i := 3) (oi := ?oi1004) (v := ?v1004) ?hi1004 (by kernel_rfl) (by kernel_rfl) (by kernel_rfl) (by kernel_rfl) ?hQ1004 ?hy1004 (by assumption) ?rest1004
    case hi1004 => (simp only [List.getElem?_toArray, List.getElem?_cons_succ, List.getElem?_cons_zero]; exact rfl)
    case hQ1004 => exact fun _ _ _ h => h
    case hy1004 => (refine Or.inl ⟨by kernel_rfl, ?_⟩; intro w hSw; (try dsimp only at hSw); go_simp; try (with_reducible rfl))
    try simp only [Act.put, List.setIfInBounds_toArray, List.set_cons_zero, List.set_cons_succ]
    refine wpP_take (i := 6) (oi := ?oi1005) (v := ?v1005) ?hi1005 (by kernel_rfl) (by kernel_rfl) (by kernel_rfl) (by kernel_rfl) ?hQ1005 ?hy1005 (by assumption) ?rest1005
    case hi1005 => (simp only [List.getElem?_toArray, List.getElem?_cons_succ, List.getElem?_cons_zero]; exact rfl)
    case hQ1005 => exact fun _ _ _ h => h
    case hy1005 => (refine Or.inl ⟨by kernel_rfl, ?_⟩; intro w hSw; (try dsimp only at hSw); go_simp; try (with_reducible rfl))
    try simp only [Act.put, List.setIfInBounds_toArray, List.set_cons_zero, List.set_cons_succ]
    refine wpP_take (i := 7) (oi := ?oi1006) (v := ?v1006) ?hi1006 (by kernel_rfl) (by kernel_rfl) (by kernel_rfl) (by kernel_rfl) ?hQ1006 ?hy1006 (by assumption) ?rest1006
    case hi1006 => (simp only [List.getElem?_toArray, List.getElem?_cons_succ, List.getElem?_cons_zero]; exact rfl)
    case hQ1006 => exact fun _ _ _ h => h
    case hy1006 => (refine Or.inl ⟨by kernel_rfl, ?_⟩; intro w hSw; (try dsimp only at hSw); go_simp; try (with_reducible rfl))
    try simp only [Act.put, List.setIfInBounds_toArray, List.set_cons_zero, List.set_cons_succ]
    refine wpP_take (i := 8) (oi := ?oi1007) (v := ?v1007) ?hi1007 (by kernel_rfl) (by kernel_rfl) (by kernel_rfl) (by kernel_rfl) ?hQ1007 ?hy1007 (by assumption) ?rest1007
    case hi1007 => (simp only [List.getElem?_toArray, List.getElem?_cons_succ, List.getElem?_cons_zero]; exact rfl)
    case hQ1007 => exact fun _ _ _ h => h
    case hy1007 => (refine Or.inl ⟨by kernel_rfl, ?_⟩; intro w hSw; (try dsimp only at hSw); go_simp; try (with_reducible rfl))
    try simp only [Act.put, List.setIfInBounds_toArray, List.set_cons_zero, List.set_cons_succ]
    refine wpP_ready (rs := [4]) (by kernel_rfl) (by simp) ?_
    refine AllP.cons (o := ?o1008) ?ho1008 (fun K hK => ?_) AllP.nil
    case ho1008 => (simp only [List.getElem?_toArray, List.getElem?_cons_succ, List.getElem?_cons_zero]; exact rfl)
    go_simp
    go_at_call 69
    refine (get_ok _ _ (by simp; omega)).mono ?_
    rintro e w3 ⟨rfl, rfl⟩
    refine hK.out _ _ ?_ (fun hHeld => ?_)
    · exact (by simp [hcs])
    clear hK K
    try simp only [Act.put, List.setIfInBounds_toArray, List.set_cons_zero, List.set_cons_succ]
    refine wpP_take (i := 5) (oi := ?oi1009) (v := ?v1009) ?hi1009 (by kernel_rfl) (by kernel_rfl) (by kernel_rfl) (by kernel_rfl) ?hQ1009 ?hy1009 (by assumption) ?rest1009
    case hi1009 => (simp only [List.getElem?_toArray, List.getElem?_cons_succ, List.getElem?_cons_zero]; exact rfl)
    case hQ1009 => exact fun _ _ _ h => h
    case hy1009 => (refine Or.inl ⟨by kernel_rfl, ?_⟩; intro w hSw; (try dsimp only at hSw); go_simp; try (with_reducible rfl))
    try simp only [Act.put, List.setIfInBounds_toArray, List.set_cons_zero, List.set_cons_succ]
    refine wpP_take (i := 9) (oi := ?oi1010) (v := ?v1010) ?hi1010 (by kernel_rfl) (by kernel_rfl) (by kernel_rfl) (by kernel_rfl) ?hQ1010 ?hy1010 (by assumption) ?rest1010
    case hi1010 => (simp only [List.getElem?_toArray, List.getElem?_cons_succ, List.getElem?_cons_zero]; exact rfl)
    case hQ1010 => exact fun _ _ _ h => h
    case hy1010 => (refine Or.inl ⟨by kernel_rfl, ?_⟩; intro w hSw; (try dsimp only at hSw); go_simp; try (with_reducible rfl))
    try simp only [Act.put, List.setIfInBounds_toArray, List.set_cons_zero, List.set_cons_succ]
    refine wpP_ready (rs := [10]) (by kernel_rfl) (by simp) ?_
    refine AllP.cons (o := ?o1011) ?ho1011 (fun K hK => ?_) AllP.nil
    case ho1011 => (simp only [List.getElem?_toArray, List.getElem?_cons_succ, List.getElem?_cons_zero]; exact rfl)
    go_simp
    refine hK.out _ _ ?_ (fun hHeld => ?_)
    · exact ((cell_set_other (by omega)).trans hcs)
    clear hK K
    try simp only [Act.put, List.setIfInBounds_toArray, List.set_cons_zero, List.set_cons_succ]
    refine wpP_ready (rs := [11]) (by kernel_rfl) (by simp) ?_
    refine AllP.last (o := ?o1012) ?ho1012 (by kernel_rfl) (fun K hK => ?_) AllP.nil
    case ho1012 => (simp only [List.getElem?_toArray, List.getElem?_cons_succ, List.getElem?_cons_zero]; exact rfl)
    go_simp
    refine hK.out _ _ ?_
    clear hK K
    try simp only [Act.put, List.setIfInBounds_toArray, List.set_cons_zero, List.set_cons_succ]
    refine wpP_done (by kernel_rfl) ?_ _
    gi_wp2
    refine ⟨keeps_drew ((KeepsOthers.setCell _ _ _).trans (KeepsOthers.setCell _ _ _)), (((KpC.refl _ _).setCell (.inr rfl) _).setCell (.inl rfl) _).drew, ?_, ?_, ?_, ?_⟩
    · rw [fst_snoc]
      refine (blk_set_other (blk_set H1.out (foff k) _) (by omega) _ _).trans ?_
      rw [xcells_set]
      rfl
    · rw [fst_snoc]
      refine (blk_set (blk_set_other H2.out (by omega) _ _) 0 _).trans ?_
      congr 3
      simp only [fstep]
      rw [List.take_of_length_le (by simp)]
      rfl
    · exact blk_set_other (blk_set_other H3.out (by omega) _ _) (by omega) _ _
    · exact (below_set (below_set hB (by omega)) (Nat.le_refl _)).drew
  case done =>
    rintro D xs W hD rfl ⟨h1, h2, h3, hB⟩ hK
    rw [fst_all s hs] at h1
    obtain ⟨q0, q1, q2, q3, q4, q5, q6, q7, q8, q9, q10, q11⟩ := cells12 (a0 := .int .i64 (((inoOf s).kind : Nat) : Int)) h1
    obtain ⟨r0, r1, r2, r3, r4, r5, r6, r7, r8, r9, r10, r11⟩ := cells12 (a0 := .int .i64 0) h3
    obtain ⟨f0, f1, f2, f3, f4, f5, f6, f7, f8, f9, f10, f11⟩ := frees12 h3
    have HR := Lib.hid h3
    have HK := Lib.hid hK
    have hDlt : w.heap.size + 4 ≤ D := by omega
    clear h1 h2 h3 hK k0 k1 k2 k3 hB0
    go_wp2
    have hbf := blk_set12 (b0 := .int .i64 0) (a0 := .int .i64 (((inoOf s).kind : Nat) : Int)) (a1 := .int .i64 (((inoOf s).links : Nat) : Int)) (a2 := .int .i64 (((inoOf s).owner : Nat) : Int)) (a3 := .int .i64 (((inoOf s).size : Nat) : Int)) (a4 := .int .i64 (((inoOf s).d0 : Nat) : Int)) (a5 := .int .i64 (((inoOf s).d1 : Nat) : Int)) (a6 := .int .i64 (((inoOf s).d2 : Nat) : Int)) (a7 := .int .i64 (((inoOf s).d3 : Nat) : Int)) (a8 := .int .i64 (((inoOf s).d4 : Nat) : Int)) (a9 := .int .i64 (((inoOf s).d5 : Nat) : Int)) (a10 := .int .i64 (((inoOf s).ind : Nat) : Int)) (a11 := .int .i64 (((inoOf s).ext : Nat) : Int)) HR.out
    have hBf : Below w.heap.size w ((((((((((((W.setCell ⟨w.heap.size + 1, 0, none⟩ (.int .i64 (((inoOf s).kind : Nat) : Int))).setCell ⟨w.heap.size + 1, 1, none⟩ (.int .i64 (((inoOf s).links : Nat) : Int))).setCell ⟨w.heap.size + 1, 2, none⟩ (.int .i64 (((inoOf s).owner : Nat) : Int))).setCell ⟨w.heap.size + 1, 3, none⟩ (.int .i64 (((inoOf s).size : Nat) : Int))).setCell ⟨w.heap.size + 1, 4, none⟩ (.int .i64 (((inoOf s).d0 : Nat) : Int))).setCell ⟨w.heap.size + 1, 5, none⟩ (.int .i64 (((inoOf s).d1 : Nat) : Int))).setCell ⟨w.heap.size + 1, 6, none⟩ (.int .i64 (((inoOf s).d2 : Nat) : Int))).setCell ⟨w.heap.size + 1, 7, none⟩ (.int .i64 (((inoOf s).d3 : Nat) : Int))).setCell ⟨w.heap.size + 1, 8, none⟩ (.int .i64 (((inoOf s).d4 : Nat) : Int))).setCell ⟨w.heap.size + 1, 9, none⟩ (.int .i64 (((inoOf s).d5 : Nat) : Int))).setCell ⟨w.heap.size + 1, 10, none⟩ (.int .i64 (((inoOf s).ind : Nat) : Int))).setCell ⟨w.heap.size + 1, 11, none⟩ (.int .i64 (((inoOf s).ext : Nat) : Int))) := below_set12 hB (by omega)
    have hKf : ((((((((((((W.setCell ⟨w.heap.size + 1, 0, none⟩ (.int .i64 (((inoOf s).kind : Nat) : Int))).setCell ⟨w.heap.size + 1, 1, none⟩ (.int .i64 (((inoOf s).links : Nat) : Int))).setCell ⟨w.heap.size + 1, 2, none⟩ (.int .i64 (((inoOf s).owner : Nat) : Int))).setCell ⟨w.heap.size + 1, 3, none⟩ (.int .i64 (((inoOf s).size : Nat) : Int))).setCell ⟨w.heap.size + 1, 4, none⟩ (.int .i64 (((inoOf s).d0 : Nat) : Int))).setCell ⟨w.heap.size + 1, 5, none⟩ (.int .i64 (((inoOf s).d1 : Nat) : Int))).setCell ⟨w.heap.size + 1, 6, none⟩ (.int .i64 (((inoOf s).d2 : Nat) : Int))).setCell ⟨w.heap.size + 1, 7, none⟩ (.int .i64 (((inoOf s).d3 : Nat) : Int))).setCell ⟨w.heap.size + 1, 8, none⟩ (.int .i64 (((inoOf s).d4 : Nat) : Int))).setCell ⟨w.heap.size + 1, 9, none⟩ (.int .i64 (((inoOf s).d5 : Nat) : Int))).setCell ⟨w.heap.size + 1, 10, none⟩ (.int .i64 (((inoOf s).ind : Nat) : Int))).setCell ⟨w.heap.size + 1, 11, none⟩ (.int .i64 (((inoOf s).ext : Nat) : Int))).heap[D]? = some (.deferred (some [])) := heap_set12 HK.out (by omega)
    generalize ((((((((((((W.setCell ⟨w.heap.size + 1, 0, none⟩ (.int .i64 (((inoOf s).kind : Nat) : Int))).setCell ⟨w.heap.size + 1, 1, none⟩ (.int .i64 (((inoOf s).links : Nat) : Int))).setCell ⟨w.heap.size + 1, 2, none⟩ (.int .i64 (((inoOf s).owner : Nat) : Int))).setCell ⟨w.heap.size + 1, 3, none⟩ (.int .i64 (((inoOf s).size : Nat) : Int))).setCell ⟨w.heap.size + 1, 4, none⟩ (.int .i64 (((inoOf s).d0 : Nat) : Int))).setCell ⟨w.heap.size + 1, 5, none⟩ (.int .i64 (((inoOf s).d1 : Nat) : Int))).setCell ⟨w.heap.size + 1, 6, none⟩ (.int .i64 (((inoOf s).d2 : Nat) : Int))).setCell ⟨w.heap.size + 1, 7, none⟩ (.int .i64 (((inoOf s).d3 : Nat) : Int))).setCell ⟨w.heap.size + 1, 8, none⟩ (.int .i64 (((inoOf s).d4 : Nat) : Int))).setCell ⟨w.heap.size + 1, 9, none⟩ (.int .i64 (((inoOf s).d5 : Nat) : Int))).setCell ⟨w.heap.size + 1, 10, none⟩ (.int .i64 (((inoOf s).ind : Nat) : Int))).setCell ⟨w.heap.size + 1, 11, none⟩ (.int .i64 (((inoOf s).ext : Nat) : Int))) = Wf at hbf hBf hKf ⊢
    have hbg := (World.putObj_heap_other (r := D) (o := .deferred none) (show w.heap.size + 1 ≠ D by omega)).trans hbf
    obtain ⟨c0, c1, c2, c3, c4, c5, c6, c7, c8, c9, c10, c11⟩ := cells12 hbg
    refine ⟨by simp, .inl ⟨_, _, rfl, run_takeDeferred hKf, ?_⟩⟩
    exact ⟨.agg #[.int .i64 (((inoOf s).kind : Nat) : Int), .int .i64 (((inoOf s).links : Nat) : Int), .int .i64 (((inoOf s).owner : Nat) : Int), .int .i64 (((inoOf s).size : Nat) : Int), .int .i64 (((inoOf s).d0 : Nat) : Int), .int .i64 (((inoOf s).d1 : Nat) : Int), .int .i64 (((inoOf s).d2 : Nat) : Int), .int .i64 (((inoOf s).d3 : Nat) : Int), .int .i64 (((inoOf s).d4 : Nat) : Int), .int .i64 (((inoOf s).d5 : Nat) : Int), .int .i64 (((inoOf s).ind : Nat) : Int), .int .i64 (((inoOf s).ext : Nat) : Int)], by simp [results, Try.results73, go_sem, c0, c1, c2, c3, c4, c5, c6, c7, c8, c9, c10, c11], rfl, below_putD hBf (by omega) hKf⟩
  case stop =>
    rintro D c pre W _ _ h _
    exact h.elim
end Go.Proofs.Ytacdohlhalnioaa

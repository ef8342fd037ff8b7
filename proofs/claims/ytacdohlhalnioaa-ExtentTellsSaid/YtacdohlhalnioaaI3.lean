/- An inode's bytes, and whether it fits (the program's). -/
import Derived.Test.YtacdohlhalnioaaI2
set_option linter.unusedVariables false
set_option maxRecDepth 20000
namespace Go.Proofs.Ytacdohlhalnioaa
open Go.RowKit Go.Shelf
attribute [local go_sem] Oper.semAt_some

theorem below_undrew {w w' : World} (h : Below w.drew.heap.size w.drew w') : Below w.heap.size w w' := ⟨h.os, h.tape, h.output, h.size, h.block⟩
theorem Ino.list_len (x : Ino) : x.list.length = 12 := rfl
/-- The bytes of some fields. -/
def bytesTo (x : Ino) (pre : List (Fin 12)) : Blk := pre.flatMap fun (k : Fin 12) => ple (x.list.getD (foff k) 0) (fsz k)
def inoBytes (x : Ino) : Blk := bytesTo x (List.finRange 12)
theorem bytesTo_snoc (x : Ino) (pre : List (Fin 12)) (k : Fin 12) : bytesTo x (pre ++ [k]) = bytesTo x pre ++ ple (x.list.getD (foff k) 0) (fsz k) := by simp [bytesTo]
theorem bytesTo_len (x : Ino) (pre : List (Fin 12)) : (bytesTo x pre).length ≤ 4 * pre.length := by
  induction pre with
  | nil => simp [bytesTo]
  | cons k pre ih =>
    have := fsz_le k
    simp only [bytesTo, List.flatMap_cons, List.length_append, ple_length, List.length_cons] at ih ⊢
    omega
/-- All numbers of an inode are of four bytes. -/
def small4 (x : Ino) : Prop := ∀ k : Fin 12, x.list.getD (foff k) 0 < 4294967296

set_option maxHeartbeats 2000000 in
theorem ibytes_ok (x : Ino) (w : World) (hs : small4 x) :
    Calls Try.prog 109 #[.agg #[.int .i64 ((x.kind : Nat) : Int), .int .i64 ((x.links : Nat) : Int), .int .i64 ((x.owner : Nat) : Int), .int .i64 ((x.size : Nat) : Int), .int .i64 ((x.d0 : Nat) : Int), .int .i64 ((x.d1 : Nat) : Int), .int .i64 ((x.d2 : Nat) : Int), .int .i64 ((x.d3 : Nat) : Int), .int .i64 ((x.d4 : Nat) : Int), .int .i64 ((x.d5 : Nat) : Int), .int .i64 ((x.ind : Nat) : Int), .int .i64 ((x.ext : Nat) : Int)]] w fun e w' => e = .returned (.string (mk (inoBytes x))) ∧ Below w.heap.size w w' := by
  refine callsIn_wide.1 (callsIn_of_wp_marks (n := 3) Try.func109 rfl trivial (wpIn_wide.2 ?_) rfl)
  simp only [Try.ntmps109, List.size_toArray, List.length_cons, List.length_nil, Nat.reduceAdd, Nat.reduceSub, Array.replicate_succ, Array.replicate_zero, List.push_toArray, List.append_toArray, List.nil_append, List.cons_append]
  go_wp2_with (go_at_call 107; refine (fields_ok w.heap.size _).mono ?_; rintro e w' ⟨rfl, rfl⟩)
  obtain ⟨W0, hW0⟩ : ∃ W0, ((w.alloc (.cells (xcells x.list) 45)).alloc (.cells #[.string (mk [])] 9)).alloc (.cells #[.pointer (some ⟨w.heap.size, 0, none⟩)] 134) = W0 := ⟨_, rfl⟩
  obtain ⟨k0, k1, k2, hsz, hB0⟩ := alloc3 _ _ _ _ _ hW0
  simp only [xcells, Ino.list, List.map] at hW0
  rw [hW0]
  clear hW0
  have HX := Lib.hid hs
  clear hs
  refine wp_rangeFunc (α := Fin 12) (gf := 128) (lb := #[.pointer (some ⟨w.heap.size + 2, 0, none⟩)]) rfl (enters_of Try.func128 (by kernel_rfl) rfl)
    (fields_stops 2 w.heap.size (w.heap.size + 2) (fun k => k = w.heap.size + 1) W0 (by rw [cell_at k2]; rfl) (by intro k hk; omega)) (fun _ => rfl)
    (fun pre W => W.heap[w.heap.size]? = some (.cells (xcells x.list) 45 (0, 0)) ∧ W.heap[w.heap.size + 1]? = some (.cells #[.string (mk (bytesTo x pre))] 9 (0, 0)) ∧ Below w.heap.size w W)
    (fun _ _ _ => False)
    ?own (fun _ _ _ _ _ hs _ _ => hs) ⟨k0, (by simpa [bytesTo] using k1), hB0⟩
    (fun k => { tmps := #[.agg #[.int .i64 ((x.kind : Nat) : Int), .int .i64 ((x.links : Nat) : Int), .int .i64 ((x.owner : Nat) : Int), .int .i64 ((x.size : Nat) : Int), .int .i64 ((x.d0 : Nat) : Int), .int .i64 ((x.d1 : Nat) : Int), .int .i64 ((x.d2 : Nat) : Int), .int .i64 ((x.d3 : Nat) : Int), .int .i64 ((x.d4 : Nat) : Int), .int .i64 ((x.d5 : Nat) : Int), .int .i64 ((x.ind : Nat) : Int), .int .i64 ((x.ext : Nat) : Int)], .pointer (some ⟨w.heap.size, 0, none⟩), .string (mk []), .pointer (some ⟨w.heap.size + 1, 0, none⟩), .pointer (some ⟨w.heap.size, foff k, none⟩), .int .i64 (fsz k : Nat), .func (.func 128) #[] #[.pointer (some ⟨w.heap.size + 2, 0, none⟩)], .pointer (some ⟨w.heap.size, foff k, none⟩), .int .i64 (fsz k : Nat), undef, undef, undef, undef, undef, undef, undef, undef, undef], defers := [] }) ?assign ?body ?done ?stop
  case own =>
    intro pre A B row hs hg hr
    obtain ⟨h1, h2, h4⟩ := hs
    have hr' : ∀ r, row = some r → ∃ o : Obj, A.heap[r]? = some o ∧ o.isCells = false := fun r e => (hr r e).2
    exact ⟨cells_grown h1 hg hr', cells_grown h2 hg hr', h4.grown hg (by have := (Array.getElem?_eq_some_iff.1 h1).1; omega) (fun r e => by have := (hr r e).1; omega)⟩
  case assign =>
    intro l k W K hK
    gi_wp2
    exact hK
  case body =>
    rintro l pre k W ⟨h1, h2, hB⟩ hlen
    have hz4 := fsz_le k
    have hof := foff_lt k
    have hfb : x.list.getD (foff k) 0 < 4294967296 := HX.out k
    have hcx : W.cell? ⟨w.heap.size, foff k, none⟩ = some (.int .i64 ((x.list.getD (foff k) 0 : Nat) : Int)) := by
      rw [cell_at h1, xcells_get _ _ (by rw [Ino.list_len]; exact hof)]
    have hcs : W.cell? ⟨w.heap.size + 1, 0, none⟩ = some (.string (mk (bytesTo x pre))) := by rw [cell_at h2]; rfl
    have hwr := wrap_u64 (x.list.getD (foff k) 0) hfb
    have hlb := bytesTo_len x pre
    have hlp := ple_length (x.list.getD (foff k) 0) (fsz k)
    have H1 := Lib.hid h1
    have H2 := Lib.hid h2
    have HL := Lib.hid hlp
    clear h1 h2 hlp
    obtain ⟨fv, hfv⟩ : ∃ fv, x.list.getD (foff k) 0 = fv := ⟨_, rfl⟩
    have hcat : ¬ (9223372036854775807 < (bytesTo x pre).length + fsz k) := by omega
    rw [hfv] at hfb hcx hwr
    have HV := Lib.hid hfv
    clear hfv
    gi_wp2
    refine region_P_in_round (fun w' => w'.cell? ⟨w.heap.size + 1, 0, none⟩ = some (.string (mk (bytesTo x pre))) ∧ w'.cell? ⟨w.heap.size, foff k, none⟩ = some (.int .i64 (fv : Int))) [8] (by kernel_rfl) (by kernel_rfl) (fun _ _ h => h) ?_ (fun hHeld => ?_)
    · exact ⟨by simp [hcs], by simp [hcx]⟩
    refine wpP_take (i := 0) (oi := ?oi2001) (v := ?v2001) ?hi2001 (by kernel_rfl) (by kernel_rfl) (by kernel_rfl) (by kernel_rfl) ?hQ2001 ?hy2001 (by assumption) ?rest2001
    case hi2001 => (simp only [List.getElem?_toArray, List.getElem?_cons_succ, List.getElem?_cons_zero]; exact rfl)
    case hQ2001 => exact fun _ _ _ h => h
    case hy2001 => (refine Or.inl ⟨by kernel_rfl, ?_⟩; intro w hSw; (try dsimp only at hSw); go_simp; try (with_reducible rfl))
    try simp only [Act.put, List.setIfInBounds_toArray, List.set_cons_zero, List.set_cons_succ]
    refine wpP_take (i := 1) (oi := ?oi2002) (v := ?v2002) ?hi2002 (by kernel_rfl) (by kernel_rfl) (by kernel_rfl) (by kernel_rfl) ?hQ2002 ?hy2002 (by assumption) ?rest2002
    case hi2002 => (simp only [List.getElem?_toArray, List.getElem?_cons_succ, List.getElem?_cons_zero]; exact rfl)
    case hQ2002 => exact fun _ _ _ h => h
    case hy2002 => (refine Or.inl ⟨by kernel_rfl, ?_⟩; intro w hSw; (try dsimp only at hSw); go_simp; try (with_reducible rfl))
    try simp only [Act.put, List.setIfInBounds_toArray, List.set_cons_zero, List.set_cons_succ]
    refine wpP_take (i := 2) (oi := ?oi2003) (v := ?v2003) ?hi2003 (by kernel_rfl) (by kernel_rfl) (by kernel_rfl) (by kernel_rfl) ?hQ2003 ?hy2003 (by assumption) ?rest2003
    case hi2003 => (simp only [List.getElem?_toArray, List.getElem?_cons_succ, List.getElem?_cons_zero]; exact rfl)
    case hQ2003 => exact fun _ _ _ h => h
    case hy2003 => (refine Or.inl ⟨by kernel_rfl, ?_⟩; intro w hSw; (try dsimp only at hSw); go_simp; try (with_reducible rfl))
    try simp only [Act.put, List.setIfInBounds_toArray, List.set_cons_zero, List.set_cons_succ]
    refine wpP_take (i := 3) (oi := ?oi2004) (v := ?v2004) ?hi2004 (by kernel_rfl) (by kernel_rfl) (by kernel_rfl) (by kernel_rfl) ?hQ2004 ?hy2004 (by assumption) ?rest2004
    case hi2004 => (simp only [List.getElem?_toArray, List.getElem?_cons_succ, List.getElem?_cons_zero]; exact rfl)
    case hQ2004 => exact fun _ _ _ h => h
    case hy2004 => (refine Or.inl ⟨by kernel_rfl, ?_⟩; intro w hSw; (try dsimp only at hSw); go_simp; try (with_reducible rfl))
    try simp only [Act.put, List.setIfInBounds_toArray, List.set_cons_zero, List.set_cons_succ]
    refine wpP_take (i := 4) (oi := ?oi2005) (v := ?v2005) ?hi2005 (by kernel_rfl) (by kernel_rfl) (by kernel_rfl) (by kernel_rfl) ?hQ2005 ?hy2005 (by assumption) ?rest2005
    case hi2005 => (simp only [List.getElem?_toArray, List.getElem?_cons_succ, List.getElem?_cons_zero]; exact rfl)
    case hQ2005 => exact fun _ _ _ h => h
    case hy2005 => (refine Or.inl ⟨by kernel_rfl, ?_⟩; intro w hSw; (try dsimp only at hSw); go_simp; try (with_reducible rfl))
    try simp only [Act.put, List.setIfInBounds_toArray, List.set_cons_zero, List.set_cons_succ]
    refine wpP_take (i := 5) (oi := ?oi2006) (v := ?v2006) ?hi2006 (by kernel_rfl) (by kernel_rfl) (by kernel_rfl) (by kernel_rfl) ?hQ2006 ?hy2006 (by assumption) ?rest2006
    case hi2006 => (simp only [List.getElem?_toArray, List.getElem?_cons_succ, List.getElem?_cons_zero]; exact rfl)
    case hQ2006 => exact fun _ _ _ h => h
    case hy2006 => (refine Or.inl ⟨by kernel_rfl, ?_⟩; intro w hSw; (try dsimp only at hSw); go_simp; try (with_reducible rfl))
    try simp only [Act.put, List.setIfInBounds_toArray, List.set_cons_zero, List.set_cons_succ]
    refine wpP_ready (rs := [6]) (by kernel_rfl) (by simp) ?_
    refine AllP.cons (o := ?o2007) ?ho2007 (fun K hK => ?_) AllP.nil
    case ho2007 => (simp only [List.getElem?_toArray, List.getElem?_cons_succ, List.getElem?_cons_zero]; exact rfl)
    go_simp
    go_at_call 67
    refine (put_ok _ (fsz k) _ (by omega) hfb).mono ?_
    rintro e w3 ⟨rfl, hb3⟩
    have hz := below_undrew hb3
    have d1 := cell_keep hcs hz
    have d2 := free_of (blk_keep H2.out hz) 0
    refine hK.out _ _ ?_ (fun hHeld => ?_)
    · exact ⟨cell_keep hcs hz, cell_keep hcx hz⟩
    clear hK K
    try simp only [Act.put, List.setIfInBounds_toArray, List.set_cons_zero, List.set_cons_succ]
    refine wpP_take (i := 7) (oi := ?oi2008) (v := ?v2008) ?hi2008 (by kernel_rfl) (by kernel_rfl) (by kernel_rfl) (by kernel_rfl) ?hQ2008 ?hy2008 (by assumption) ?rest2008
    case hi2008 => (simp only [List.getElem?_toArray, List.getElem?_cons_succ, List.getElem?_cons_zero]; exact rfl)
    case hQ2008 => exact fun _ _ _ h => h
    case hy2008 => (refine Or.inl ⟨by kernel_rfl, ?_⟩; intro w hSw; (try dsimp only at hSw); go_simp; try (with_reducible rfl))
    try simp only [Act.put, List.setIfInBounds_toArray, List.set_cons_zero, List.set_cons_succ]
    refine wpP_ready (rs := [8]) (by kernel_rfl) (by simp) ?_
    refine AllP.last (o := ?o2009) ?ho2009 (by kernel_rfl) (fun K hK => ?_) AllP.nil
    case ho2009 => (simp only [List.getElem?_toArray, List.getElem?_cons_succ, List.getElem?_cons_zero]; exact rfl)
    go_simp
    refine hK.out _ _ ?_
    clear hK K
    try simp only [Act.put, List.setIfInBounds_toArray, List.set_cons_zero, List.set_cons_succ]
    refine wpP_done (by kernel_rfl) ?_ _
    gi_wp2
    refine ⟨(KeepsOthers.of_grownBy (row := none) ⟨hz.os, hz.tape, hz.output, hz.size, fun q hq _ => hz.block q hq⟩ (fun j o e => by cases e)).trans (KeepsOthers.setCell _ _ _), KpC.setCell (F := fun k => k = w.heap.size + 1) (KpC.of_below hz) rfl _, ?_, ?_, ?_⟩
    · exact blk_set_other (blk_keep H1.out hz) (by omega) _ _
    · rw [bytesTo_snoc, HV.out]
      exact blk_set (blk_keep H2.out hz) 0 _
    · exact below_set (below_keep hB (Nat.le_refl _) hz) (by omega)
  case done =>
    rintro D xs W hD rfl ⟨h1, h2, hB⟩ hK
    have hco : W.cell? ⟨w.heap.size + 1, 0, none⟩ = some (.string (mk (inoBytes x))) := by rw [cell_at h2]; rfl
    clear h1 h2 k0 k1 k2 hB0
    have HK := Lib.hid hK
    clear hK
    go_wp2
    refine ⟨by simp, .inl ⟨_, _, rfl, run_takeDeferred HK.out, ?_⟩⟩
    exact ⟨_, results_tmp rfl _ _ _, rfl, below_putD hB (by omega) HK.out⟩
  case stop =>
    rintro D c pre W _ _ h _
    exact h.elim
end Go.Proofs.Ytacdohlhalnioaa

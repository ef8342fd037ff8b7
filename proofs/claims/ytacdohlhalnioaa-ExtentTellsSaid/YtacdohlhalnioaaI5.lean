/- Whether an inode fits: it does (the program's). -/
import Derived.Test.YtacdohlhalnioaaI4
import Derived.Test.YtacdohlhalnioaaM1
set_option linter.unusedVariables false
set_option maxRecDepth 20000
namespace Go.Proofs.Ytacdohlhalnioaa
open Go.RowKit Go.Shelf
attribute [local go_sem] Oper.semAt_some

/-- All numbers of an inode fit. -/
def fitI (x : Ino) : Prop := ∀ k : Fin 12, x.list.getD (foff k) 0 < 256 ^ fsz k
theorem fsz_is (k : Nat) : fsz k = 1 ∨ fsz k = 2 ∨ fsz k = 4 := by unfold fsz; split <;> (try split) <;> omega
theorem fitI.small {x : Ino} (h : fitI x) : small4 x := by
  intro k
  refine Nat.lt_of_lt_of_le (h k) ?_
  rcases fsz_is k with e | e | e <;> rw [e] <;> omega

set_option maxHeartbeats 4000000 in
theorem fits_ok (x : Ino) (w : World) (hs : fitI x) :
    Calls Try.prog 108 #[.agg #[.int .i64 ((x.kind : Nat) : Int), .int .i64 ((x.links : Nat) : Int), .int .i64 ((x.owner : Nat) : Int), .int .i64 ((x.size : Nat) : Int), .int .i64 ((x.d0 : Nat) : Int), .int .i64 ((x.d1 : Nat) : Int), .int .i64 ((x.d2 : Nat) : Int), .int .i64 ((x.d3 : Nat) : Int), .int .i64 ((x.d4 : Nat) : Int), .int .i64 ((x.d5 : Nat) : Int), .int .i64 ((x.ind : Nat) : Int), .int .i64 ((x.ext : Nat) : Int)]] w fun e w' => e = .returned (.bool true) ∧ Below w.heap.size w w' := by
  refine callsIn_wide.1 (callsIn_of_wp_marks (n := 3) Try.func108 rfl trivial (wpIn_wide.2 ?_) rfl)
  simp only [Try.ntmps108, List.size_toArray, List.length_cons, List.length_nil, Nat.reduceAdd, Nat.reduceSub, Array.replicate_succ, Array.replicate_zero, List.push_toArray, List.append_toArray, List.nil_append, List.cons_append]
  go_wp2_with (go_at_call 107; refine (fields_ok w.heap.size _).mono ?_; rintro e w' ⟨rfl, rfl⟩)
  obtain ⟨W0, hW0⟩ : ∃ W0, ((w.alloc (.cells (xcells x.list) 45)).alloc (.cells #[.bool false] 4)).alloc (.cells #[.pointer (some ⟨w.heap.size, 0, none⟩)] 134) = W0 := ⟨_, rfl⟩
  obtain ⟨k0, k1, k2, hsz, hB0⟩ := alloc3 _ _ _ _ _ hW0
  simp only [xcells, Ino.list, List.map] at hW0
  rw [hW0]
  clear hW0
  have HX := Lib.hid hs
  clear hs
  refine wp_rangeFunc (α := Fin 12) (gf := 128) (lb := #[.pointer (some ⟨w.heap.size + 2, 0, none⟩)]) rfl (enters_of Try.func128 (by kernel_rfl) rfl)
    (fields_stops 2 w.heap.size (w.heap.size + 2) (fun k => False) W0 (by rw [cell_at k2]; rfl) (by intro k hk; exact hk.elim)) (fun _ => rfl)
    (fun pre W => W.heap[w.heap.size]? = some (.cells (xcells x.list) 45 (0, 0)) ∧ W.heap[w.heap.size + 1]? = some (.cells #[.bool false] 4 (0, 0)) ∧ Below w.heap.size w W)
    (fun _ _ _ => False)
    ?own (fun _ _ _ _ _ hs _ _ => hs) ⟨k0, k1, hB0⟩
    (fun k => { tmps := #[.agg #[.int .i64 ((x.kind : Nat) : Int), .int .i64 ((x.links : Nat) : Int), .int .i64 ((x.owner : Nat) : Int), .int .i64 ((x.size : Nat) : Int), .int .i64 ((x.d0 : Nat) : Int), .int .i64 ((x.d1 : Nat) : Int), .int .i64 ((x.d2 : Nat) : Int), .int .i64 ((x.d3 : Nat) : Int), .int .i64 ((x.d4 : Nat) : Int), .int .i64 ((x.d5 : Nat) : Int), .int .i64 ((x.ind : Nat) : Int), .int .i64 ((x.ext : Nat) : Int)], .pointer (some ⟨w.heap.size, 0, none⟩), .pointer (some ⟨w.heap.size + 1, 0, none⟩), .pointer (some ⟨w.heap.size, foff k, none⟩), .int .i64 (fsz k : Nat), .func (.func 128) #[] #[.pointer (some ⟨w.heap.size + 2, 0, none⟩)], .pointer (some ⟨w.heap.size, foff k, none⟩), .int .i64 (fsz k : Nat), undef, undef, undef, undef, undef, undef, undef, undef, undef, undef, undef, undef, undef, undef, undef], defers := [] }) ?assign ?body ?done ?stop
  case own =>
    intro pre A B row hs hg hr
    obtain ⟨h1, h2, h4⟩ := hs
    have hr' : ∀ r, row = some r → ∃ o : Obj, A.heap[r]? = some o ∧ o.isCells = false := fun r e => (hr r e).2
    exact ⟨cells_grown h1 hg hr', cells_grown h2 hg hr', h4.grown hg (by have := (Array.getElem?_eq_some_iff.1 h1).1; omega) (fun r e => by have := (hr r e).1; omega)⟩
  case assign =>
    intro l k W K hK
    gi_wp2
    exact hK
  case body =>
    rintro l pre k W ⟨h1, h2, hB⟩ hlen
    have hof := foff_lt k
    have hfb : x.list.getD (foff k) 0 < 256 ^ fsz k := HX.out k
    have hcx : W.cell? ⟨w.heap.size, foff k, none⟩ = some (.int .i64 ((x.list.getD (foff k) 0 : Nat) : Int)) := by
      rw [cell_at h1, xcells_get _ _ (by rw [Ino.list_len]; exact hof)]
    have hwr := wrap_u64 (x.list.getD (foff k) 0) (HX.out.small k)
    have H1 := Lib.hid h1
    have H2 := Lib.hid h2
    clear h1 h2
    generalize x.list.getD (foff k) 0 = fv at *
    have hf0 : (0 : Int) ≤ (fv : Int) := by omega
    have a1 : IntKind.i64.wrap (32 - IntKind.i64.wrap 8) = 24 := rfl
    have a2 : IntKind.i64.wrap (32 - IntKind.i64.wrap 16) = 16 := rfl
    have a4 : IntKind.i64.wrap (32 - IntKind.i64.wrap 32) = 0 := rfl
    have b1 : Op.shift BinOp.shr IntKind.u64 4294967295 IntKind.i64 24 = pure (.int .u64 255) := by rw [shift_shr_any _ _ _ _ (by decide)]; rfl
    have b2 : Op.shift BinOp.shr IntKind.u64 4294967295 IntKind.i64 16 = pure (.int .u64 65535) := by rw [shift_shr_any _ _ _ _ (by decide)]; rfl
    have b4 : Op.shift BinOp.shr IntKind.u64 4294967295 IntKind.i64 0 = pure (.int .u64 4294967295) := by rw [shift_shr_any _ _ _ _ (by decide)]; rfl
    rcases fsz_is k with e | e | e
    · rw [e] at hfb ⊢
      simp only [Nat.reducePow] at hfb
      have hg1 : ¬ ((255 : Int) < (fv : Int) ∧ fsz k = 1) := by omega
      have hg2 : fsz k = 1 → (fv : Int) ≤ 255 := by omega
      have hg3 : fsz k = 2 → (fv : Int) ≤ 65535 := by omega
      have hg4 : (fv : Int) ≤ 4294967295 := by omega
      clear hg1
      try have hg5 := hg2 e
      try have hg6 := hg3 e
      clear hg2 hg3
      gi_wp2
      refine region_P_in_round (fun w' => w'.cell? ⟨w.heap.size, foff k, none⟩ = some (.int .i64 (fv : Int))) [] (by kernel_rfl) (by kernel_rfl) (fun _ _ h => h) ?_ (fun hHeld => ?_)
      · exact (by simp [hcx])
      refine wpP_take (i := 0) (oi := ?oi745001) (v := ?v745001) ?hi745001 (by kernel_rfl) (by kernel_rfl) (by kernel_rfl) (by kernel_rfl) ?hQ745001 ?hy745001 (by assumption) ?rest745001
      case hi745001 => (simp only [List.getElem?_toArray, List.getElem?_cons_succ, List.getElem?_cons_zero]; exact rfl)
      case hQ745001 => exact fun _ _ _ h => h
      case hy745001 => (refine Or.inl ⟨by kernel_rfl, ?_⟩; intro w hSw; (try dsimp only at hSw); go_simp; try (with_reducible rfl))
      try simp only [Act.put, List.setIfInBounds_toArray, List.set_cons_zero, List.set_cons_succ]
      refine wpP_take (i := 1) (oi := ?oi745002) (v := ?v745002) ?hi745002 (by kernel_rfl) (by kernel_rfl) (by kernel_rfl) (by kernel_rfl) ?hQ745002 ?hy745002 (by assumption) ?rest745002
      case hi745002 => (simp only [List.getElem?_toArray, List.getElem?_cons_succ, List.getElem?_cons_zero]; exact rfl)
      case hQ745002 => exact fun _ _ _ h => h
      case hy745002 => (refine Or.inl ⟨by kernel_rfl, ?_⟩; intro w hSw; (try dsimp only at hSw); go_simp; try (with_reducible rfl))
      try simp only [Act.put, List.setIfInBounds_toArray, List.set_cons_zero, List.set_cons_succ]
      refine wpP_take (i := 2) (oi := ?oi745003) (v := ?v745003) ?hi745003 (by kernel_rfl) (by kernel_rfl) (by kernel_rfl) (by kernel_rfl) ?hQ745003 ?hy745003 (by assumption) ?rest745003
      case hi745003 => (simp only [List.getElem?_toArray, List.getElem?_cons_succ, List.getElem?_cons_zero]; exact rfl)
      case hQ745003 => exact fun _ _ _ h => h
      case hy745003 => (refine Or.inl ⟨by kernel_rfl, ?_⟩; intro w hSw; (try dsimp only at hSw); go_simp; try (with_reducible rfl))
      try simp only [Act.put, List.setIfInBounds_toArray, List.set_cons_zero, List.set_cons_succ]
      refine wpP_take (i := 3) (oi := ?oi745004) (v := ?v745004) ?hi745004 (by kernel_rfl) (by kernel_rfl) (by kernel_rfl) (by kernel_rfl) ?hQ745004 ?hy745004 (by assumption) ?rest745004
      case hi745004 => (simp only [List.getElem?_toArray, List.getElem?_cons_succ, List.getElem?_cons_zero]; exact rfl)
      case hQ745004 => exact fun _ _ _ h => h
      case hy745004 => (refine Or.inl ⟨by kernel_rfl, ?_⟩; intro w hSw; (try dsimp only at hSw); go_simp; try (with_reducible rfl))
      try simp only [Act.put, List.setIfInBounds_toArray, List.set_cons_zero, List.set_cons_succ]
      refine wpP_take (i := 4) (oi := ?oi745005) (v := ?v745005) ?hi745005 (by kernel_rfl) (by kernel_rfl) (by kernel_rfl) (by kernel_rfl) ?hQ745005 ?hy745005 (by assumption) ?rest745005
      case hi745005 => (simp only [List.getElem?_toArray, List.getElem?_cons_succ, List.getElem?_cons_zero]; exact rfl)
      case hQ745005 => exact fun _ _ _ h => h
      case hy745005 => (refine Or.inl ⟨by kernel_rfl, ?_⟩; intro w hSw; (try dsimp only at hSw); go_simp; try (with_reducible rfl))
      try simp only [Act.put, List.setIfInBounds_toArray, List.set_cons_zero, List.set_cons_succ]
      refine wpP_take (i := 5) (oi := ?oi745006) (v := ?v745006) ?hi745006 (by kernel_rfl) (by kernel_rfl) (by kernel_rfl) (by kernel_rfl) ?hQ745006 ?hy745006 (by assumption) ?rest745006
      case hi745006 => (simp only [List.getElem?_toArray, List.getElem?_cons_succ, List.getElem?_cons_zero]; exact rfl)
      case hQ745006 => exact fun _ _ _ h => h
      case hy745006 => (refine Or.inl ⟨by kernel_rfl, ?_⟩; intro w hSw; (try dsimp only at hSw); go_simp; try (with_reducible rfl))
      try simp only [Act.put, List.setIfInBounds_toArray, List.set_cons_zero, List.set_cons_succ]
      refine wpP_take (i := 6) (oi := ?oi745007) (v := ?v745007) ?hi745007 (by kernel_rfl) (by kernel_rfl) (by kernel_rfl) (by kernel_rfl) ?hQ745007 ?hy745007 (by assumption) ?rest745007
      case hi745007 => (simp only [List.getElem?_toArray, List.getElem?_cons_succ, List.getElem?_cons_zero]; exact rfl)
      case hQ745007 => exact fun _ _ _ h => h
      case hy745007 => (refine Or.inl ⟨by kernel_rfl, ?_⟩; intro w hSw; (try dsimp only at hSw); go_simp; try (with_reducible rfl))
      try simp only [Act.put, List.setIfInBounds_toArray, List.set_cons_zero, List.set_cons_succ]
      refine wpP_take (i := 7) (oi := ?oi745008) (v := ?v745008) ?hi745008 (by kernel_rfl) (by kernel_rfl) (by kernel_rfl) (by kernel_rfl) ?hQ745008 ?hy745008 (by assumption) ?rest745008
      case hi745008 => (simp only [List.getElem?_toArray, List.getElem?_cons_succ, List.getElem?_cons_zero]; exact rfl)
      case hQ745008 => exact fun _ _ _ h => h
      case hy745008 => (refine Or.inl ⟨by kernel_rfl, ?_⟩; intro w hSw; (try dsimp only at hSw); go_simp; try (with_reducible rfl))
      try simp only [Act.put, List.setIfInBounds_toArray, List.set_cons_zero, List.set_cons_succ]
      refine wpP_take (i := 8) (oi := ?oi745009) (v := ?v745009) ?hi745009 (by kernel_rfl) (by kernel_rfl) (by kernel_rfl) (by kernel_rfl) ?hQ745009 ?hy745009 (by assumption) ?rest745009
      case hi745009 => (simp only [List.getElem?_toArray, List.getElem?_cons_succ, List.getElem?_cons_zero]; exact rfl)
      case hQ745009 => exact fun _ _ _ h => h
      case hy745009 => (refine Or.inl ⟨by kernel_rfl, ?_⟩; intro w hSw; (try dsimp only at hSw); go_simp; try (with_reducible rfl))
      try simp only [Act.put, List.setIfInBounds_toArray, List.set_cons_zero, List.set_cons_succ]
      refine wpP_take (i := 9) (oi := ?oi745010) (v := ?v745010) ?hi745010 (by kernel_rfl) (by kernel_rfl) (by kernel_rfl) (by kernel_rfl) ?hQ745010 ?hy745010 (by assumption) ?rest745010
      case hi745010 => (simp only [List.getElem?_toArray, List.getElem?_cons_succ, List.getElem?_cons_zero]; exact rfl)
      case hQ745010 => exact fun _ _ _ h => h
      case hy745010 => (refine Or.inl ⟨by kernel_rfl, ?_⟩; intro w hSw; (try dsimp only at hSw); go_simp; try (with_reducible rfl))
      try simp only [Act.put, List.setIfInBounds_toArray, List.set_cons_zero, List.set_cons_succ]
      refine wpP_take (i := 10) (oi := ?oi745011) (v := ?v745011) ?hi745011 (by kernel_rfl) (by kernel_rfl) (by kernel_rfl) (by kernel_rfl) ?hQ745011 ?hy745011 (by assumption) ?rest745011
      case hi745011 => (simp only [List.getElem?_toArray, List.getElem?_cons_succ, List.getElem?_cons_zero]; exact rfl)
      case hQ745011 => exact fun _ _ _ h => h
      case hy745011 => (refine Or.inl ⟨by kernel_rfl, ?_⟩; intro w hSw; (try dsimp only at hSw); go_simp; try (with_reducible rfl))
      try simp only [Act.put, List.setIfInBounds_toArray, List.set_cons_zero, List.set_cons_succ]
      refine wpP_take (i := 11) (oi := ?oi745012) (v := ?v745012) ?hi745012 (by kernel_rfl) (by kernel_rfl) (by kernel_rfl) (by kernel_rfl) ?hQ745012 ?hy745012 (by assumption) ?rest745012
      case hi745012 => (simp only [List.getElem?_toArray, List.getElem?_cons_succ, List.getElem?_cons_zero]; exact rfl)
      case hQ745012 => exact fun _ _ _ h => h
      case hy745012 => (refine Or.inl ⟨by kernel_rfl, ?_⟩; intro w hSw; (try dsimp only at hSw); go_simp; try (with_reducible rfl))
      try simp only [Act.put, List.setIfInBounds_toArray, List.set_cons_zero, List.set_cons_succ]
      refine wpP_take (i := 12) (oi := ?oi745013) (v := ?v745013) ?hi745013 (by kernel_rfl) (by kernel_rfl) (by kernel_rfl) (by kernel_rfl) ?hQ745013 ?hy745013 (by assumption) ?rest745013
      case hi745013 => (simp only [List.getElem?_toArray, List.getElem?_cons_succ, List.getElem?_cons_zero]; exact rfl)
      case hQ745013 => exact fun _ _ _ h => h
      case hy745013 => (refine Or.inl ⟨by kernel_rfl, ?_⟩; intro w hSw; (try dsimp only at hSw); go_simp; try (with_reducible rfl))
      try simp only [Act.put, List.setIfInBounds_toArray, List.set_cons_zero, List.set_cons_succ]
      refine wpP_take (i := 13) (oi := ?oi745014) (v := ?v745014) ?hi745014 (by kernel_rfl) (by kernel_rfl) (by kernel_rfl) (by kernel_rfl) ?hQ745014 ?hy745014 (by assumption) ?rest745014
      case hi745014 => (simp only [List.getElem?_toArray, List.getElem?_cons_succ, List.getElem?_cons_zero]; exact rfl)
      case hQ745014 => exact fun _ _ _ h => h
      case hy745014 => (refine Or.inl ⟨by kernel_rfl, ?_⟩; intro w hSw; (try dsimp only at hSw); go_simp; try (with_reducible rfl))
      try simp only [Act.put, List.setIfInBounds_toArray, List.set_cons_zero, List.set_cons_succ]
      refine wpP_take (i := 14) (oi := ?oi745015) (v := ?v745015) ?hi745015 (by kernel_rfl) (by kernel_rfl) (by kernel_rfl) (by kernel_rfl) ?hQ745015 ?hy745015 (by assumption) ?rest745015
      case hi745015 => (simp only [List.getElem?_toArray, List.getElem?_cons_succ, List.getElem?_cons_zero]; exact rfl)
      case hQ745015 => exact fun _ _ _ h => h
      case hy745015 => (refine Or.inl ⟨by kernel_rfl, ?_⟩; intro w hSw; (try dsimp only at hSw); go_simp; try (with_reducible rfl))
      try simp only [Act.put, List.setIfInBounds_toArray, List.set_cons_zero, List.set_cons_succ]
      refine wpP_done (by kernel_rfl) ?_ _
      gi_wp2
      refine ⟨keeps_drew (KeepsOthers.refl _), (KpC.refl _ _).drew, H1.out, H2.out, hB.drew⟩
    · rw [e] at hfb ⊢
      simp only [Nat.reducePow] at hfb
      have hg1 : ¬ ((255 : Int) < (fv : Int) ∧ fsz k = 1) := by omega
      have hg2 : fsz k = 1 → (fv : Int) ≤ 255 := by omega
      have hg3 : fsz k = 2 → (fv : Int) ≤ 65535 := by omega
      have hg4 : (fv : Int) ≤ 4294967295 := by omega
      clear hg1
      try have hg5 := hg2 e
      try have hg6 := hg3 e
      clear hg2 hg3
      gi_wp2
      refine region_P_in_round (fun w' => w'.cell? ⟨w.heap.size, foff k, none⟩ = some (.int .i64 (fv : Int))) [] (by kernel_rfl) (by kernel_rfl) (fun _ _ h => h) ?_ (fun hHeld => ?_)
      · exact (by simp [hcx])
      refine wpP_take (i := 0) (oi := ?oi745016) (v := ?v745016) ?hi745016 (by kernel_rfl) (by kernel_rfl) (by kernel_rfl) (by kernel_rfl) ?hQ745016 ?hy745016 (by assumption) ?rest745016
      case hi745016 => (simp only [List.getElem?_toArray, List.getElem?_cons_succ, List.getElem?_cons_zero]; exact rfl)
      case hQ745016 => exact fun _ _ _ h => h
      case hy745016 => (refine Or.inl ⟨by kernel_rfl, ?_⟩; intro w hSw; (try dsimp only at hSw); go_simp; try (with_reducible rfl))
      try simp only [Act.put, List.setIfInBounds_toArray, List.set_cons_zero, List.set_cons_succ]
      refine wpP_take (i := 1) (oi := ?oi745017) (v := ?v745017) ?hi745017 (by kernel_rfl) (by kernel_rfl) (by kernel_rfl) (by kernel_rfl) ?hQ745017 ?hy745017 (by assumption) ?rest745017
      case hi745017 => (simp only [List.getElem?_toArray, List.getElem?_cons_succ, List.getElem?_cons_zero]; exact rfl)
      case hQ745017 => exact fun _ _ _ h => h
      case hy745017 => (refine Or.inl ⟨by kernel_rfl, ?_⟩; intro w hSw; (try dsimp only at hSw); go_simp; try (with_reducible rfl))
      try simp only [Act.put, List.setIfInBounds_toArray, List.set_cons_zero, List.set_cons_succ]
      refine wpP_take (i := 2) (oi := ?oi745018) (v := ?v745018) ?hi745018 (by kernel_rfl) (by kernel_rfl) (by kernel_rfl) (by kernel_rfl) ?hQ745018 ?hy745018 (by assumption) ?rest745018
      case hi745018 => (simp only [List.getElem?_toArray, List.getElem?_cons_succ, List.getElem?_cons_zero]; exact rfl)
      case hQ745018 => exact fun _ _ _ h => h
      case hy745018 => (refine Or.inl ⟨by kernel_rfl, ?_⟩; intro w hSw; (try dsimp only at hSw); go_simp; try (with_reducible rfl))
      try simp only [Act.put, List.setIfInBounds_toArray, List.set_cons_zero, List.set_cons_succ]
      refine wpP_take (i := 3) (oi := ?oi745019) (v := ?v745019) ?hi745019 (by kernel_rfl) (by kernel_rfl) (by kernel_rfl) (by kernel_rfl) ?hQ745019 ?hy745019 (by assumption) ?rest745019
      case hi745019 => (simp only [List.getElem?_toArray, List.getElem?_cons_succ, List.getElem?_cons_zero]; exact rfl)
      case hQ745019 => exact fun _ _ _ h => h
      case hy745019 => (refine Or.inl ⟨by kernel_rfl, ?_⟩; intro w hSw; (try dsimp only at hSw); go_simp; try (with_reducible rfl))
      try simp only [Act.put, List.setIfInBounds_toArray, List.set_cons_zero, List.set_cons_succ]
      refine wpP_take (i := 4) (oi := ?oi745020) (v := ?v745020) ?hi745020 (by kernel_rfl) (by kernel_rfl) (by kernel_rfl) (by kernel_rfl) ?hQ745020 ?hy745020 (by assumption) ?rest745020
      case hi745020 => (simp only [List.getElem?_toArray, List.getElem?_cons_succ, List.getElem?_cons_zero]; exact rfl)
      case hQ745020 => exact fun _ _ _ h => h
      case hy745020 => (refine Or.inl ⟨by kernel_rfl, ?_⟩; intro w hSw; (try dsimp only at hSw); go_simp; try (with_reducible rfl))
      try simp only [Act.put, List.setIfInBounds_toArray, List.set_cons_zero, List.set_cons_succ]
      refine wpP_take (i := 5) (oi := ?oi745021) (v := ?v745021) ?hi745021 (by kernel_rfl) (by kernel_rfl) (by kernel_rfl) (by kernel_rfl) ?hQ745021 ?hy745021 (by assumption) ?rest745021
      case hi745021 => (simp only [List.getElem?_toArray, List.getElem?_cons_succ, List.getElem?_cons_zero]; exact rfl)
      case hQ745021 => exact fun _ _ _ h => h
      case hy745021 => (refine Or.inl ⟨by kernel_rfl, ?_⟩; intro w hSw; (try dsimp only at hSw); go_simp; try (with_reducible rfl))
      try simp only [Act.put, List.setIfInBounds_toArray, List.set_cons_zero, List.set_cons_succ]
      refine wpP_take (i := 6) (oi := ?oi745022) (v := ?v745022) ?hi745022 (by kernel_rfl) (by kernel_rfl) (by kernel_rfl) (by kernel_rfl) ?hQ745022 ?hy745022 (by assumption) ?rest745022
      case hi745022 => (simp only [List.getElem?_toArray, List.getElem?_cons_succ, List.getElem?_cons_zero]; exact rfl)
      case hQ745022 => exact fun _ _ _ h => h
      case hy745022 => (refine Or.inl ⟨by kernel_rfl, ?_⟩; intro w hSw; (try dsimp only at hSw); go_simp; try (with_reducible rfl))
      try simp only [Act.put, List.setIfInBounds_toArray, List.set_cons_zero, List.set_cons_succ]
      refine wpP_take (i := 7) (oi := ?oi745023) (v := ?v745023) ?hi745023 (by kernel_rfl) (by kernel_rfl) (by kernel_rfl) (by kernel_rfl) ?hQ745023 ?hy745023 (by assumption) ?rest745023
      case hi745023 => (simp only [List.getElem?_toArray, List.getElem?_cons_succ, List.getElem?_cons_zero]; exact rfl)
      case hQ745023 => exact fun _ _ _ h => h
      case hy745023 => (refine Or.inl ⟨by kernel_rfl, ?_⟩; intro w hSw; (try dsimp only at hSw); go_simp; try (with_reducible rfl))
      try simp only [Act.put, List.setIfInBounds_toArray, List.set_cons_zero, List.set_cons_succ]
      refine wpP_take (i := 8) (oi := ?oi745024) (v := ?v745024) ?hi745024 (by kernel_rfl) (by kernel_rfl) (by kernel_rfl) (by kernel_rfl) ?hQ745024 ?hy745024 (by assumption) ?rest745024
      case hi745024 => (simp only [List.getElem?_toArray, List.getElem?_cons_succ, List.getElem?_cons_zero]; exact rfl)
      case hQ745024 => exact fun _ _ _ h => h
      case hy745024 => (refine Or.inl ⟨by kernel_rfl, ?_⟩; intro w hSw; (try dsimp only at hSw); go_simp; try (with_reducible rfl))
      try simp only [Act.put, List.setIfInBounds_toArray, List.set_cons_zero, List.set_cons_succ]
      refine wpP_take (i := 9) (oi := ?oi745025) (v := ?v745025) ?hi745025 (by kernel_rfl) (by kernel_rfl) (by kernel_rfl) (by kernel_rfl) ?hQ745025 ?hy745025 (by assumption) ?rest745025
      case hi745025 => (simp only [List.getElem?_toArray, List.getElem?_cons_succ, List.getElem?_cons_zero]; exact rfl)
      case hQ745025 => exact fun _ _ _ h => h
      case hy745025 => (refine Or.inl ⟨by kernel_rfl, ?_⟩; intro w hSw; (try dsimp only at hSw); go_simp; try (with_reducible rfl))
      try simp only [Act.put, List.setIfInBounds_toArray, List.set_cons_zero, List.set_cons_succ]
      refine wpP_take (i := 10) (oi := ?oi745026) (v := ?v745026) ?hi745026 (by kernel_rfl) (by kernel_rfl) (by kernel_rfl) (by kernel_rfl) ?hQ745026 ?hy745026 (by assumption) ?rest745026
      case hi745026 => (simp only [List.getElem?_toArray, List.getElem?_cons_succ, List.getElem?_cons_zero]; exact rfl)
      case hQ745026 => exact fun _ _ _ h => h
      case hy745026 => (refine Or.inl ⟨by kernel_rfl, ?_⟩; intro w hSw; (try dsimp only at hSw); go_simp; try (with_reducible rfl))
      try simp only [Act.put, List.setIfInBounds_toArray, List.set_cons_zero, List.set_cons_succ]
      refine wpP_take (i := 11) (oi := ?oi745027) (v := ?v745027) ?hi745027 (by kernel_rfl) (by kernel_rfl) (by kernel_rfl) (by kernel_rfl) ?hQ745027 ?hy745027 (by assumption) ?rest745027
      case hi745027 => (simp only [List.getElem?_toArray, List.getElem?_cons_succ, List.getElem?_cons_zero]; exact rfl)
      case hQ745027 => exact fun _ _ _ h => h
      case hy745027 => (refine Or.inl ⟨by kernel_rfl, ?_⟩; intro w hSw; (try dsimp only at hSw); go_simp; try (with_reducible rfl))
      try simp only [Act.put, List.setIfInBounds_toArray, List.set_cons_zero, List.set_cons_succ]
      refine wpP_take (i := 12) (oi := ?oi745028) (v := ?v745028) ?hi745028 (by kernel_rfl) (by kernel_rfl) (by kernel_rfl) (by kernel_rfl) ?hQ745028 ?hy745028 (by assumption) ?rest745028
      case hi745028 => (simp only [List.getElem?_toArray, List.getElem?_cons_succ, List.getElem?_cons_zero]; exact rfl)
      case hQ745028 => exact fun _ _ _ h => h
      case hy745028 => (refine Or.inl ⟨by kernel_rfl, ?_⟩; intro w hSw; (try dsimp only at hSw); go_simp; try (with_reducible rfl))
      try simp only [Act.put, List.setIfInBounds_toArray, List.set_cons_zero, List.set_cons_succ]
      refine wpP_take (i := 13) (oi := ?oi745029) (v := ?v745029) ?hi745029 (by kernel_rfl) (by kernel_rfl) (by kernel_rfl) (by kernel_rfl) ?hQ745029 ?hy745029 (by assumption) ?rest745029
      case hi745029 => (simp only [List.getElem?_toArray, List.getElem?_cons_succ, List.getElem?_cons_zero]; exact rfl)
      case hQ745029 => exact fun _ _ _ h => h
      case hy745029 => (refine Or.inl ⟨by kernel_rfl, ?_⟩; intro w hSw; (try dsimp only at hSw); go_simp; try (with_reducible rfl))
      try simp only [Act.put, List.setIfInBounds_toArray, List.set_cons_zero, List.set_cons_succ]
      refine wpP_take (i := 14) (oi := ?oi745030) (v := ?v745030) ?hi745030 (by kernel_rfl) (by kernel_rfl) (by kernel_rfl) (by kernel_rfl) ?hQ745030 ?hy745030 (by assumption) ?rest745030
      case hi745030 => (simp only [List.getElem?_toArray, List.getElem?_cons_succ, List.getElem?_cons_zero]; exact rfl)
      case hQ745030 => exact fun _ _ _ h => h
      case hy745030 => (refine Or.inl ⟨by kernel_rfl, ?_⟩; intro w hSw; (try dsimp only at hSw); go_simp; try (with_reducible rfl))
      try simp only [Act.put, List.setIfInBounds_toArray, List.set_cons_zero, List.set_cons_succ]
      refine wpP_done (by kernel_rfl) ?_ _
      gi_wp2
      refine ⟨keeps_drew (KeepsOthers.refl _), (KpC.refl _ _).drew, H1.out, H2.out, hB.drew⟩
    · rw [e] at hfb ⊢
      simp only [Nat.reducePow] at hfb
      have hg1 : ¬ ((255 : Int) < (fv : Int) ∧ fsz k = 1) := by omega
      have hg2 : fsz k = 1 → (fv : Int) ≤ 255 := by omega
      have hg3 : fsz k = 2 → (fv : Int) ≤ 65535 := by omega
      have hg4 : (fv : Int) ≤ 4294967295 := by omega
      clear hg1
      try have hg5 := hg2 e
      try have hg6 := hg3 e
      clear hg2 hg3
      gi_wp2
      refine region_P_in_round (fun w' => w'.cell? ⟨w.heap.size, foff k, none⟩ = some (.int .i64 (fv : Int))) [] (by kernel_rfl) (by kernel_rfl) (fun _ _ h => h) ?_ (fun hHeld => ?_)
      · exact (by simp [hcx])
      refine wpP_take (i := 0) (oi := ?oi745031) (v := ?v745031) ?hi745031 (by kernel_rfl) (by kernel_rfl) (by kernel_rfl) (by kernel_rfl) ?hQ745031 ?hy745031 (by assumption) ?rest745031
      case hi745031 => (simp only [List.getElem?_toArray, List.getElem?_cons_succ, List.getElem?_cons_zero]; exact rfl)
      case hQ745031 => exact fun _ _ _ h => h
      case hy745031 => (refine Or.inl ⟨by kernel_rfl, ?_⟩; intro w hSw; (try dsimp only at hSw); go_simp; try (with_reducible rfl))
      try simp only [Act.put, List.setIfInBounds_toArray, List.set_cons_zero, List.set_cons_succ]
      refine wpP_take (i := 1) (oi := ?oi745032) (v := ?v745032) ?hi745032 (by kernel_rfl) (by kernel_rfl) (by kernel_rfl) (by kernel_rfl) ?hQ745032 ?hy745032 (by assumption) ?rest745032
      case hi745032 => (simp only [List.getElem?_toArray, List.getElem?_cons_succ, List.getElem?_cons_zero]; exact rfl)
      case hQ745032 => exact fun _ _ _ h => h
      case hy745032 => (refine Or.inl ⟨by kernel_rfl, ?_⟩; intro w hSw; (try dsimp only at hSw); go_simp; try (with_reducible rfl))
      try simp only [Act.put, List.setIfInBounds_toArray, List.set_cons_zero, List.set_cons_succ]
      refine wpP_take (i := 2) (oi := ?oi745033) (v := ?v745033) ?hi745033 (by kernel_rfl) (by kernel_rfl) (by kernel_rfl) (by kernel_rfl) ?hQ745033 ?hy745033 (by assumption) ?rest745033
      case hi745033 => (simp only [List.getElem?_toArray, List.getElem?_cons_succ, List.getElem?_cons_zero]; exact rfl)
      case hQ745033 => exact fun _ _ _ h => h
      case hy745033 => (refine Or.inl ⟨by kernel_rfl, ?_⟩; intro w hSw; (try dsimp only at hSw); go_simp; try (with_reducible rfl))
      try simp only [Act.put, List.setIfInBounds_toArray, List.set_cons_zero, List.set_cons_succ]
      refine wpP_take (i := 3) (oi := ?oi745034) (v := ?v745034) ?hi745034 (by kernel_rfl) (by kernel_rfl) (by kernel_rfl) (by kernel_rfl) ?hQ745034 ?hy745034 (by assumption) ?rest745034
      case hi745034 => (simp only [List.getElem?_toArray, List.getElem?_cons_succ, List.getElem?_cons_zero]; exact rfl)
      case hQ745034 => exact fun _ _ _ h => h
      case hy745034 => (refine Or.inl ⟨by kernel_rfl, ?_⟩; intro w hSw; (try dsimp only at hSw); go_simp; try (with_reducible rfl))
      try simp only [Act.put, List.setIfInBounds_toArray, List.set_cons_zero, List.set_cons_succ]
      refine wpP_take (i := 4) (oi := ?oi745035) (v := ?v745035) ?hi745035 (by kernel_rfl) (by kernel_rfl) (by kernel_rfl) (by kernel_rfl) ?hQ745035 ?hy745035 (by assumption) ?rest745035
      case hi745035 => (simp only [List.getElem?_toArray, List.getElem?_cons_succ, List.getElem?_cons_zero]; exact rfl)
      case hQ745035 => exact fun _ _ _ h => h
      case hy745035 => (refine Or.inl ⟨by kernel_rfl, ?_⟩; intro w hSw; (try dsimp only at hSw); go_simp; try (with_reducible rfl))
      try simp only [Act.put, List.setIfInBounds_toArray, List.set_cons_zero, List.set_cons_succ]
      refine wpP_take (i := 5) (oi := ?oi745036) (v := ?v745036) ?hi745036 (by kernel_rfl) (by kernel_rfl) (by kernel_rfl) (by kernel_rfl) ?hQ745036 ?hy745036 (by assumption) ?rest745036
      case hi745036 => (simp only [List.getElem?_toArray, List.getElem?_cons_succ, List.getElem?_cons_zero]; exact rfl)
      case hQ745036 => exact fun _ _ _ h => h
      case hy745036 => (refine Or.inl ⟨by kernel_rfl, ?_⟩; intro w hSw; (try dsimp only at hSw); go_simp; try (with_reducible rfl))
      try simp only [Act.put, List.setIfInBounds_toArray, List.set_cons_zero, List.set_cons_succ]
      refine wpP_take (i := 6) (oi := ?oi745037) (v := ?v745037) ?hi745037 (by kernel_rfl) (by kernel_rfl) (by kernel_rfl) (by kernel_rfl) ?hQ745037 ?hy745037 (by assumption) ?rest745037
      case hi745037 => (simp only [List.getElem?_toArray, List.getElem?_cons_succ, List.getElem?_cons_zero]; exact rfl)
      case hQ745037 => exact fun _ _ _ h => h
      case hy745037 => (refine Or.inl ⟨by kernel_rfl, ?_⟩; intro w hSw; (try dsimp only at hSw); go_simp; try (with_reducible rfl))
      try simp only [Act.put, List.setIfInBounds_toArray, List.set_cons_zero, List.set_cons_succ]
      refine wpP_take (i := 7) (oi := ?oi745038) (v := ?v745038) ?hi745038 (by kernel_rfl) (by kernel_rfl) (by kernel_rfl) (by kernel_rfl) ?hQ745038 ?hy745038 (by assumption) ?rest745038
      case hi745038 => (simp only [List.getElem?_toArray, List.getElem?_cons_succ, List.getElem?_cons_zero]; exact rfl)
      case hQ745038 => exact fun _ _ _ h => h
      case hy745038 => (refine Or.inl ⟨by kernel_rfl, ?_⟩; intro w hSw; (try dsimp only at hSw); go_simp; try (with_reducible rfl))
      try simp only [Act.put, List.setIfInBounds_toArray, List.set_cons_zero, List.set_cons_succ]
      refine wpP_take (i := 8) (oi := ?oi745039) (v := ?v745039) ?hi745039 (by kernel_rfl) (by kernel_rfl) (by kernel_rfl) (by kernel_rfl) ?hQ745039 ?hy745039 (by assumption) ?rest745039
      case hi745039 => (simp only [List.getElem?_toArray, List.getElem?_cons_succ, List.getElem?_cons_zero]; exact rfl)
      case hQ745039 => exact fun _ _ _ h => h
      case hy745039 => (refine Or.inl ⟨by kernel_rfl, ?_⟩; intro w hSw; (try dsimp only at hSw); go_simp; try (with_reducible rfl))
      try simp only [Act.put, List.setIfInBounds_toArray, List.set_cons_zero, List.set_cons_succ]
      refine wpP_take (i := 9) (oi := ?oi745040) (v := ?v745040) ?hi745040 (by kernel_rfl) (by kernel_rfl) (by kernel_rfl) (by kernel_rfl) ?hQ745040 ?hy745040 (by assumption) ?rest745040
      case hi745040 => (simp only [List.getElem?_toArray, List.getElem?_cons_succ, List.getElem?_cons_zero]; exact rfl)
      case hQ745040 => exact fun _ _ _ h => h
      case hy745040 => (refine Or.inl ⟨by kernel_rfl, ?_⟩; intro w hSw; (try dsimp only at hSw); go_simp; try (with_reducible rfl))
      try simp only [Act.put, List.setIfInBounds_toArray, List.set_cons_zero, List.set_cons_succ]
      refine wpP_take (i := 10) (oi := ?oi745041) (v := ?v745041) ?hi745041 (by kernel_rfl) (by kernel_rfl) (by kernel_rfl) (by kernel_rfl) ?hQ745041 ?hy745041 (by assumption) ?rest745041
      case hi745041 => (simp only [List.getElem?_toArray, List.getElem?_cons_succ, List.getElem?_cons_zero]; exact rfl)
      case hQ745041 => exact fun _ _ _ h => h
      case hy745041 => (refine Or.inl ⟨by kernel_rfl, ?_⟩; intro w hSw; (try dsimp only at hSw); go_simp; try (with_reducible rfl))
      try simp only [Act.put, List.setIfInBounds_toArray, List.set_cons_zero, List.set_cons_succ]
      refine wpP_take (i := 11) (oi := ?oi745042) (v := ?v745042) ?hi745042 (by kernel_rfl) (by kernel_rfl) (by kernel_rfl) (by kernel_rfl) ?hQ745042 ?hy745042 (by assumption) ?rest745042
      case hi745042 => (simp only [List.getElem?_toArray, List.getElem?_cons_succ, List.getElem?_cons_zero]; exact rfl)
      case hQ745042 => exact fun _ _ _ h => h
      case hy745042 => (refine Or.inl ⟨by kernel_rfl, ?_⟩; intro w hSw; (try dsimp only at hSw); go_simp; try (with_reducible rfl))
      try simp only [Act.put, List.setIfInBounds_toArray, List.set_cons_zero, List.set_cons_succ]
      refine wpP_take (i := 12) (oi := ?oi745043) (v := ?v745043) ?hi745043 (by kernel_rfl) (by kernel_rfl) (by kernel_rfl) (by kernel_rfl) ?hQ745043 ?hy745043 (by assumption) ?rest745043
      case hi745043 => (simp only [List.getElem?_toArray, List.getElem?_cons_succ, List.getElem?_cons_zero]; exact rfl)
      case hQ745043 => exact fun _ _ _ h => h
      case hy745043 => (refine Or.inl ⟨by kernel_rfl, ?_⟩; intro w hSw; (try dsimp only at hSw); go_simp; try (with_reducible rfl))
      try simp only [Act.put, List.setIfInBounds_toArray, List.set_cons_zero, List.set_cons_succ]
      refine wpP_take (i := 13) (oi := ?oi745044) (v := ?v745044) ?hi745044 (by kernel_rfl) (by kernel_rfl) (by kernel_rfl) (by kernel_rfl) ?hQ745044 ?hy745044 (by assumption) ?rest745044
      case hi745044 => (simp only [List.getElem?_toArray, List.getElem?_cons_succ, List.getElem?_cons_zero]; exact rfl)
      case hQ745044 => exact fun _ _ _ h => h
      case hy745044 => (refine Or.inl ⟨by kernel_rfl, ?_⟩; intro w hSw; (try dsimp only at hSw); go_simp; try (with_reducible rfl))
      try simp only [Act.put, List.setIfInBounds_toArray, List.set_cons_zero, List.set_cons_succ]
      refine wpP_take (i := 14) (oi := ?oi745045) (v := ?v745045) ?hi745045 (by kernel_rfl) (by kernel_rfl) (by kernel_rfl) (by kernel_rfl) ?hQ745045 ?hy745045 (by assumption) ?rest745045
      case hi745045 => (simp only [List.getElem?_toArray, List.getElem?_cons_succ, List.getElem?_cons_zero]; exact rfl)
      case hQ745045 => exact fun _ _ _ h => h
      case hy745045 => (refine Or.inl ⟨by kernel_rfl, ?_⟩; intro w hSw; (try dsimp only at hSw); go_simp; try (with_reducible rfl))
      try simp only [Act.put, List.setIfInBounds_toArray, List.set_cons_zero, List.set_cons_succ]
      refine wpP_done (by kernel_rfl) ?_ _
      gi_wp2
      refine ⟨keeps_drew (KeepsOthers.refl _), (KpC.refl _ _).drew, H1.out, H2.out, hB.drew⟩
  case done =>
    rintro D xs W hD rfl ⟨h1, h2, hB⟩ hK
    have hco : W.cell? ⟨w.heap.size + 1, 0, none⟩ = some (.bool false) := by rw [cell_at h2]; rfl
    have hfo := free_of h2 0
    have hb2 := blk_set h2 0 (.bool true)
    have hB2 : Below w.heap.size w (W.setCell ⟨w.heap.size + 1, 0, none⟩ (.bool true)) := below_set hB (by omega)
    have hK2 : (W.setCell ⟨w.heap.size + 1, 0, none⟩ (.bool true)).heap[D]? = some (.deferred (some [])) := blk_set_other hK (by omega) _ _
    have HK := Lib.hid hK2
    have HB := Lib.hid hB2
    have HH := Lib.hid hb2
    clear h1 h2 k0 k1 k2 hB0 hK hb2 hB2 hK2
    go_wp2
    have hbg := (World.putObj_heap_other (r := D) (o := .deferred none) (show w.heap.size + 1 ≠ D by omega)).trans HH.out
    have hc := cell_at hbg 0
    refine ⟨by simp, .inl ⟨_, _, rfl, run_takeDeferred HK.out, ?_⟩⟩
    exact ⟨.bool true, by simp [results, Try.results108, go_sem, hc], rfl, below_putD HB.out (by omega) HK.out⟩
  case stop =>
    rintro D c pre W _ _ h _
    exact h.elim
end Go.Proofs.Ytacdohlhalnioaa

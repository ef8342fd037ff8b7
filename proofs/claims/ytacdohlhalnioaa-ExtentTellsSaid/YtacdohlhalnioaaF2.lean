/- Contract: the document's inode of 64 bytes. -/
import Derived.Test.YtacdohlhalnioaaF1
set_option linter.unusedVariables false
set_option maxRecDepth 20000
namespace Go.Proofs.Ytacdohlhalnioaa
open Go.RowKit
attribute [local go_sem] Oper.semAt_some

theorem word_int (s : Blk) (j : Int) (w : World) (h0 : 0 ≤ j) (h : j.toNat + 1 < s.length) (hl : s.length ≤ 128) :
    Calls Try.prog 122 #[.string (mk s), .int .i64 j] w fun e w' => e = .returned (.int .i64 ((w2 s j.toNat : Nat) : Int)) ∧ w.drew = w' := by
  have := word_ok s j.toNat w h hl
  rwa [Int.toNat_of_nonneg h0] at this
theorem word_at (s : Blk) (i : Nat) (j : Int) (w : World) (hj : j = (i : Int)) (h : i + 1 < s.length) (hl : s.length ≤ 128) :
    Calls Try.prog 122 #[.string (mk s), .int .i64 j] w fun e w' => e = .returned (.int .i64 ((w2 s i : Nat) : Int)) ∧ w.drew = w' := by
  subst hj
  exact word_ok s i w h hl
theorem at_world {Q : Exit → Act → World → Prop} {e : Exit} {a : Act} {w : World} (R : World → Prop) (hR : R w) (h : ∀ W, R W → Q e a W) : Q e a w := h w hR
def stl (s : Blk) (k : Nat) : List Nat := (List.range k).foldl (fun l j => l.set (4 + j) (w2 s (8 + 2 * j))) [gb s 0, w2 s 2, gb s 1, (inoOf s).size, 0, 0, 0, 0, 0, 0, w2 s 20, w2 s 22]
theorem stl_succ (s : Blk) (k : Nat) : stl s (k + 1) = (stl s k).set (4 + k) (w2 s (8 + 2 * k)) := by simp [stl, List.range_succ]
theorem stl_len (s : Blk) (k : Nat) : (stl s k).length = 12 := by
  induction k with
  | zero => rfl
  | succ k ih => rw [stl_succ, List.length_set, ih]
theorem stl_all (s : Blk) : stl s 6 = (inoOf s).list := rfl
set_option maxHeartbeats 4000000 in
theorem rof18_ok (s : Blk) (w : World) (hs : s.length = 64) :
    Calls Try.prog 97 #[.string (mk s)] w fun e w' => e = .returned (.agg #[.int .i64 (((inoOf s).kind : Nat) : Int), .int .i64 (((inoOf s).links : Nat) : Int), .int .i64 (((inoOf s).owner : Nat) : Int), .int .i64 (((inoOf s).size : Nat) : Int), .int .i64 (((inoOf s).d0 : Nat) : Int), .int .i64 (((inoOf s).d1 : Nat) : Int), .int .i64 (((inoOf s).d2 : Nat) : Int), .int .i64 (((inoOf s).d3 : Nat) : Int), .int .i64 (((inoOf s).d4 : Nat) : Int), .int .i64 (((inoOf s).d5 : Nat) : Int), .int .i64 (((inoOf s).ind : Nat) : Int), .int .i64 (((inoOf s).ext : Nat) : Int)]) ∧ Below w.heap.size w w' := by
  have HS := Lib.hid hs
  have hl1 : 64 ≤ s.length := by omega
  have hw0 := wrap_i64 (gb s 0) (by have := gb_lt s 0; omega)
  have hw1 := wrap_i64 (gb s 1) (by have := gb_lt s 1; omega)
  have hz : (inoOf s).size = w2 s 4 + 65536 * w2 s 6 := rfl
  have hzi : (w2 s 4 : Int) + 65536 * (w2 s 6 : Int) = (((inoOf s).size : Nat) : Int) := by rw [hz]; omega
  have l6 := w2_lt s 6
  have l4 := w2_lt s 4
  have hm6 : IntKind.i64.wrap (65536 * (w2 s 6 : Int)) = 65536 * (w2 s 6 : Int) := by simp [IntKind.wrap, IntKind.bits, IntKind.signed]; omega
  have hms : IntKind.i64.wrap (((inoOf s).size : Nat) : Int) = (((inoOf s).size : Nat) : Int) := by rw [hz]; simp [IntKind.wrap, IntKind.bits, IntKind.signed]; omega
  have p0 : (0 : Int) < (s.length : Nat) := by omega
  have p1 : (1 : Int) < (s.length : Nat) := by omega
  have p0' : 0 < s.length := by omega
  have k1 := heap_alloc_lt (w.alloc (.cells #[.int .i64 0, .int .i64 0, .int .i64 0, .int .i64 0, .int .i64 0, .int .i64 0, .int .i64 0, .int .i64 0, .int .i64 0, .int .i64 0, .int .i64 0, .int .i64 0] 45)) (.cells #[.int .i64 ((gb s 0 : Nat) : Int), .int .i64 ((w2 s 2 : Nat) : Int), .int .i64 ((gb s 1 : Nat) : Int), .int .i64 (((inoOf s).size : Nat) : Int), .int .i64 0, .int .i64 0, .int .i64 0, .int .i64 0, .int .i64 0, .int .i64 0, .int .i64 ((w2 s 20 : Nat) : Int), .int .i64 ((w2 s 22 : Nat) : Int)] 45) _ _ (blk_new w _)
  have k2 := heap_alloc_at (w.alloc (.cells #[.int .i64 0, .int .i64 0, .int .i64 0, .int .i64 0, .int .i64 0, .int .i64 0, .int .i64 0, .int .i64 0, .int .i64 0, .int .i64 0, .int .i64 0, .int .i64 0] 45)) (.cells #[.int .i64 ((gb s 0 : Nat) : Int), .int .i64 ((w2 s 2 : Nat) : Int), .int .i64 ((gb s 1 : Nat) : Int), .int .i64 (((inoOf s).size : Nat) : Int), .int .i64 0, .int .i64 0, .int .i64 0, .int .i64 0, .int .i64 0, .int .i64 0, .int .i64 ((w2 s 20 : Nat) : Int), .int .i64 ((w2 s 22 : Nat) : Int)] 45) (w.heap.size + 1) (by simp)
  have k3 := (((Below.refl w.heap.size w).alloc (Nat.le_refl _) (.cells #[.int .i64 0, .int .i64 0, .int .i64 0, .int .i64 0, .int .i64 0, .int .i64 0, .int .i64 0, .int .i64 0, .int .i64 0, .int .i64 0, .int .i64 0, .int .i64 0] 45)).alloc (by simp) (.cells #[.int .i64 ((gb s 0 : Nat) : Int), .int .i64 ((w2 s 2 : Nat) : Int), .int .i64 ((gb s 1 : Nat) : Int), .int .i64 (((inoOf s).size : Nat) : Int), .int .i64 0, .int .i64 0, .int .i64 0, .int .i64 0, .int .i64 0, .int .i64 0, .int .i64 ((w2 s 20 : Nat) : Int), .int .i64 ((w2 s 22 : Nat) : Int)] 45)).drew.drew.drew.drew.drew.drew
  rw [show #[.int .i64 ((gb s 0 : Nat) : Int), .int .i64 ((w2 s 2 : Nat) : Int), .int .i64 ((gb s 1 : Nat) : Int), .int .i64 (((inoOf s).size : Nat) : Int), .int .i64 0, .int .i64 0, .int .i64 0, .int .i64 0, .int .i64 0, .int .i64 0, .int .i64 ((w2 s 20 : Nat) : Int), .int .i64 ((w2 s 22 : Nat) : Int)] = xcells (stl s 0) from rfl] at k2
  have K1 := Lib.hid k1
  have K2 := Lib.hid k2
  have K3 := Lib.hid k3
  clear k1 k2 k3
  go_enter Try.func97, Try.ntmps97
  clear hs hz
  go_wp2
  refine region_P (fun _ => True) [] (by kernel_rfl) ?_ (fun hHeld => ?_)
  · exact trivial
  refine wpP_take (i := 0) (oi := ?oi792001) (v := ?v792001) ?hi792001 (by kernel_rfl) (by kernel_rfl) (by kernel_rfl) (by kernel_rfl) ?hQ792001 ?hy792001 (by assumption) ?rest792001
  case hi792001 => (simp only [List.getElem?_toArray, List.getElem?_cons_succ, List.getElem?_cons_zero]; exact rfl)
  case hQ792001 => exact fun _ _ _ h => h
  case hy792001 => (refine Or.inl ⟨by kernel_rfl, ?_⟩; intro w hSw; (try dsimp only at hSw); go_simp; try (with_reducible rfl))
  try simp only [Act.put, List.setIfInBounds_toArray, List.set_cons_zero, List.set_cons_succ]
  refine wpP_take (i := 1) (oi := ?oi792002) (v := ?v792002) ?hi792002 (by kernel_rfl) (by kernel_rfl) (by kernel_rfl) (by kernel_rfl) ?hQ792002 ?hy792002 (by assumption) ?rest792002
  case hi792002 => (simp only [List.getElem?_toArray, List.getElem?_cons_succ, List.getElem?_cons_zero]; exact rfl)
  case hQ792002 => exact fun _ _ _ h => h
  case hy792002 => (refine Or.inl ⟨by kernel_rfl, ?_⟩; intro w hSw; (try dsimp only at hSw); go_simp; try (with_reducible rfl))
  try simp only [Act.put, List.setIfInBounds_toArray, List.set_cons_zero, List.set_cons_succ]
  refine wpP_take (i := 2) (oi := ?oi792003) (v := ?v792003) ?hi792003 (by kernel_rfl) (by kernel_rfl) (by kernel_rfl) (by kernel_rfl) ?hQ792003 ?hy792003 (by assumption) ?rest792003
  case hi792003 => (simp only [List.getElem?_toArray, List.getElem?_cons_succ, List.getElem?_cons_zero]; exact rfl)
  case hQ792003 => exact fun _ _ _ h => h
  case hy792003 => (refine Or.inl ⟨by kernel_rfl, ?_⟩; intro w hSw; (try dsimp only at hSw); go_simp; try (with_reducible rfl))
  try simp only [Act.put, List.setIfInBounds_toArray, List.set_cons_zero, List.set_cons_succ]
  refine wpP_take (i := 3) (oi := ?oi792004) (v := ?v792004) ?hi792004 (by kernel_rfl) (by kernel_rfl) (by kernel_rfl) (by kernel_rfl) ?hQ792004 ?hy792004 (by assumption) ?rest792004
  case hi792004 => (simp only [List.getElem?_toArray, List.getElem?_cons_succ, List.getElem?_cons_zero]; exact rfl)
  case hQ792004 => exact fun _ _ _ h => h
  case hy792004 => (refine Or.inl ⟨by kernel_rfl, ?_⟩; intro w hSw; (try dsimp only at hSw); go_simp; try (with_reducible rfl))
  try simp only [Act.put, List.setIfInBounds_toArray, List.set_cons_zero, List.set_cons_succ]
  refine wpP_take (i := 4) (oi := ?oi792005) (v := ?v792005) ?hi792005 (by kernel_rfl) (by kernel_rfl) (by kernel_rfl) (by kernel_rfl) ?hQ792005 ?hy792005 (by assumption) ?rest792005
  case hi792005 => (simp only [List.getElem?_toArray, List.getElem?_cons_succ, List.getElem?_cons_zero]; exact rfl)
  case hQ792005 => exact fun _ _ _ h => h
  case hy792005 => (refine Or.inl ⟨by kernel_rfl, ?_⟩; intro w hSw; (try dsimp only at hSw); go_simp; try (with_reducible rfl))
  try simp only [Act.put, List.setIfInBounds_toArray, List.set_cons_zero, List.set_cons_succ]
  refine wpP_take (i := 5) (oi := ?oi792006) (v := ?v792006) ?hi792006 (by kernel_rfl) (by kernel_rfl) (by kernel_rfl) (by kernel_rfl) ?hQ792006 ?hy792006 (by assumption) ?rest792006
  case hi792006 => (simp only [List.getElem?_toArray, List.getElem?_cons_succ, List.getElem?_cons_zero]; exact rfl)
  case hQ792006 => exact fun _ _ _ h => h
  case hy792006 => (refine Or.inl ⟨by kernel_rfl, ?_⟩; intro w hSw; (try dsimp only at hSw); go_simp; try (with_reducible rfl))
  try simp only [Act.put, List.setIfInBounds_toArray, List.set_cons_zero, List.set_cons_succ]
  refine wpP_take (i := 6) (oi := ?oi792007) (v := ?v792007) ?hi792007 (by kernel_rfl) (by kernel_rfl) (by kernel_rfl) (by kernel_rfl) ?hQ792007 ?hy792007 (by assumption) ?rest792007
  case hi792007 => (simp only [List.getElem?_toArray, List.getElem?_cons_succ, List.getElem?_cons_zero]; exact rfl)
  case hQ792007 => exact fun _ _ _ h => h
  case hy792007 => (refine Or.inl ⟨by kernel_rfl, ?_⟩; intro w hSw; (try dsimp only at hSw); go_simp; try (with_reducible rfl))
  try simp only [Act.put, List.setIfInBounds_toArray, List.set_cons_zero, List.set_cons_succ]
  refine wpP_take (i := 8) (oi := ?oi792008) (v := ?v792008) ?hi792008 (by kernel_rfl) (by kernel_rfl) (by kernel_rfl) (by kernel_rfl) ?hQ792008 ?hy792008 (by assumption) ?rest792008
  case hi792008 => (simp only [List.getElem?_toArray, List.getElem?_cons_succ, List.getElem?_cons_zero]; exact rfl)
  case hQ792008 => exact fun _ _ _ h => h
  case hy792008 => (refine Or.inl ⟨by kernel_rfl, ?_⟩; intro w hSw; (try dsimp only at hSw); go_simp; try (with_reducible rfl))
  try simp only [Act.put, List.setIfInBounds_toArray, List.set_cons_zero, List.set_cons_succ]
  refine wpP_take (i := 10) (oi := ?oi792009) (v := ?v792009) ?hi792009 (by kernel_rfl) (by kernel_rfl) (by kernel_rfl) (by kernel_rfl) ?hQ792009 ?hy792009 (by assumption) ?rest792009
  case hi792009 => (simp only [List.getElem?_toArray, List.getElem?_cons_succ, List.getElem?_cons_zero]; exact rfl)
  case hQ792009 => exact fun _ _ _ h => h
  case hy792009 => (refine Or.inl ⟨by kernel_rfl, ?_⟩; intro w hSw; (try dsimp only at hSw); go_simp; try (with_reducible rfl))
  try simp only [Act.put, List.setIfInBounds_toArray, List.set_cons_zero, List.set_cons_succ]
  refine wpP_take (i := 14) (oi := ?oi792010) (v := ?v792010) ?hi792010 (by kernel_rfl) (by kernel_rfl) (by kernel_rfl) (by kernel_rfl) ?hQ792010 ?hy792010 (by assumption) ?rest792010
  case hi792010 => (simp only [List.getElem?_toArray, List.getElem?_cons_succ, List.getElem?_cons_zero]; exact rfl)
  case hQ792010 => exact fun _ _ _ h => h
  case hy792010 => (refine Or.inl ⟨by kernel_rfl, ?_⟩; intro w hSw; (try dsimp only at hSw); go_simp; try (with_reducible rfl))
  try simp only [Act.put, List.setIfInBounds_toArray, List.set_cons_zero, List.set_cons_succ]
  refine wpP_take (i := 16) (oi := ?oi792011) (v := ?v792011) ?hi792011 (by kernel_rfl) (by kernel_rfl) (by kernel_rfl) (by kernel_rfl) ?hQ792011 ?hy792011 (by assumption) ?rest792011
  case hi792011 => (simp only [List.getElem?_toArray, List.getElem?_cons_succ, List.getElem?_cons_zero]; exact rfl)
  case hQ792011 => exact fun _ _ _ h => h
  case hy792011 => (refine Or.inl ⟨by kernel_rfl, ?_⟩; intro w hSw; (try dsimp only at hSw); go_simp; try (with_reducible rfl))
  try simp only [Act.put, List.setIfInBounds_toArray, List.set_cons_zero, List.set_cons_succ]
  refine wpP_ready (rs := [7, 19]) (by kernel_rfl) (by simp) ?_
  refine AllP.cons (o := ?o792012) ?ho792012 (fun K hK => ?ca792012) (AllP.cons (o := ?oo792012) ?hoo792012 (fun K hK => ?al792012) AllP.nil)
  case ho792012 => (simp only [List.getElem?_toArray, List.getElem?_cons_succ, List.getElem?_cons_zero]; exact rfl)
  case hoo792012 => (simp only [List.getElem?_toArray, List.getElem?_cons_succ, List.getElem?_cons_zero]; exact rfl)
  case' al792012 =>
    go_simp
    refine hK.out _ _ ?_ (fun hHeld => ?_)
    · exact trivial
    clear hK K
    try simp only [Act.put, List.setIfInBounds_toArray, List.set_cons_zero, List.set_cons_succ]
    refine wpP_ready (rs := [7]) (by kernel_rfl) (by simp) ?_
    refine AllP.cons (o := ?o792013) ?ho792013 (fun K hK => ?_) AllP.nil
    case ho792013 => (simp only [List.getElem?_toArray, List.getElem?_cons_succ, List.getElem?_cons_zero]; exact rfl)
    go_simp
    go_at_call 122
    refine (word_int s _ _ (by decide) (by have := HS.out; simp; omega) (by have := HS.out; omega)).mono ?_
    simp only [Int.reduceToNat]
    rintro e w3 ⟨rfl, rfl⟩
    refine hK.out _ _ ?_ (fun hHeld => ?_)
    · exact trivial
    clear hK K
    try simp only [Act.put, List.setIfInBounds_toArray, List.set_cons_zero, List.set_cons_succ]
    refine wpP_ready (rs := [9]) (by kernel_rfl) (by simp) ?_
    refine AllP.cons (o := ?o792014) ?ho792014 (fun K hK => ?_) AllP.nil
    case ho792014 => (simp only [List.getElem?_toArray, List.getElem?_cons_succ, List.getElem?_cons_zero]; exact rfl)
    go_simp
    go_at_call 122
    refine (word_int s _ _ (by decide) (by have := HS.out; simp; omega) (by have := HS.out; omega)).mono ?_
    simp only [Int.reduceToNat]
    rintro e w3 ⟨rfl, rfl⟩
    refine hK.out _ _ ?_ (fun hHeld => ?_)
    · exact trivial
    clear hK K
    try simp only [Act.put, List.setIfInBounds_toArray, List.set_cons_zero, List.set_cons_succ]
    refine wpP_ready (rs := [11]) (by kernel_rfl) (by simp) ?_
    refine AllP.cons (o := ?o792015) ?ho792015 (fun K hK => ?_) AllP.nil
    case ho792015 => (simp only [List.getElem?_toArray, List.getElem?_cons_succ, List.getElem?_cons_zero]; exact rfl)
    go_simp
    go_at_call 122
    refine (word_int s _ _ (by decide) (by have := HS.out; simp; omega) (by have := HS.out; omega)).mono ?_
    simp only [Int.reduceToNat]
    rintro e w3 ⟨rfl, rfl⟩
    refine hK.out _ _ ?_ (fun hHeld => ?_)
    · exact trivial
    clear hK K
    try simp only [Act.put, List.setIfInBounds_toArray, List.set_cons_zero, List.set_cons_succ]
    refine wpP_take (i := 12) (oi := ?oi792016) (v := ?v792016) ?hi792016 (by kernel_rfl) (by kernel_rfl) (by kernel_rfl) (by kernel_rfl) ?hQ792016 ?hy792016 (by assumption) ?rest792016
    case hi792016 => (simp only [List.getElem?_toArray, List.getElem?_cons_succ, List.getElem?_cons_zero]; exact rfl)
    case hQ792016 => exact fun _ _ _ h => h
    case hy792016 => (refine Or.inl ⟨by kernel_rfl, ?_⟩; intro w hSw; (try dsimp only at hSw); go_simp; try (with_reducible rfl))
    try simp only [Act.put, List.setIfInBounds_toArray, List.set_cons_zero, List.set_cons_succ]
    refine wpP_take (i := 13) (oi := ?oi792017) (v := ?v792017) ?hi792017 (by kernel_rfl) (by kernel_rfl) (by kernel_rfl) (by kernel_rfl) ?hQ792017 ?hy792017 (by assumption) ?rest792017
    case hi792017 => (simp only [List.getElem?_toArray, List.getElem?_cons_succ, List.getElem?_cons_zero]; exact rfl)
    case hQ792017 => exact fun _ _ _ h => h
    case hy792017 => (refine Or.inl ⟨by kernel_rfl, ?_⟩; intro w hSw; (try dsimp only at hSw); go_simp; try (with_reducible rfl))
    try simp only [Act.put, List.setIfInBounds_toArray, List.set_cons_zero, List.set_cons_succ]
    refine wpP_ready (rs := [15]) (by kernel_rfl) (by simp) ?_
    refine AllP.cons (o := ?o792018) ?ho792018 (fun K hK => ?_) AllP.nil
    case ho792018 => (simp only [List.getElem?_toArray, List.getElem?_cons_succ, List.getElem?_cons_zero]; exact rfl)
    go_simp
    go_at_call 122
    refine (word_int s _ _ (by decide) (by have := HS.out; simp; omega) (by have := HS.out; omega)).mono ?_
    simp only [Int.reduceToNat]
    rintro e w3 ⟨rfl, rfl⟩
    refine hK.out _ _ ?_ (fun hHeld => ?_)
    · exact trivial
    clear hK K
    try simp only [Act.put, List.setIfInBounds_toArray, List.set_cons_zero, List.set_cons_succ]
    refine wpP_ready (rs := [17]) (by kernel_rfl) (by simp) ?_
    refine AllP.cons (o := ?o792019) ?ho792019 (fun K hK => ?_) AllP.nil
    case ho792019 => (simp only [List.getElem?_toArray, List.getElem?_cons_succ, List.getElem?_cons_zero]; exact rfl)
    go_simp
    go_at_call 122
    refine (word_int s _ _ (by decide) (by have := HS.out; simp; omega) (by have := HS.out; omega)).mono ?_
    simp only [Int.reduceToNat]
    rintro e w3 ⟨rfl, rfl⟩
    refine hK.out _ _ ?_ (fun hHeld => ?_)
    · exact trivial
    clear hK K
    try simp only [Act.put, List.setIfInBounds_toArray, List.set_cons_zero, List.set_cons_succ]
    refine wpP_take (i := 18) (oi := ?oi792020) (v := ?v792020) ?hi792020 (by kernel_rfl) (by kernel_rfl) (by kernel_rfl) (by kernel_rfl) ?hQ792020 ?hy792020 (by assumption) ?rest792020
    case hi792020 => (simp only [List.getElem?_toArray, List.getElem?_cons_succ, List.getElem?_cons_zero]; exact rfl)
    case hQ792020 => exact fun _ _ _ h => h
    case hy792020 => (refine Or.inl ⟨by kernel_rfl, ?_⟩; intro w hSw; (try dsimp only at hSw); go_simp; try (with_reducible rfl))
    try simp only [Act.put, List.setIfInBounds_toArray, List.set_cons_zero, List.set_cons_succ]
    refine wpP_ready (rs := [20]) (by kernel_rfl) (by simp) ?_
    refine AllP.cons (o := ?o792021) ?ho792021 (fun K hK => ?_) AllP.nil
    case ho792021 => (simp only [List.getElem?_toArray, List.getElem?_cons_succ, List.getElem?_cons_zero]; exact rfl)
    go_simp
    refine hK.out _ _ ?_ (fun hHeld => ?_)
    · exact trivial
    clear hK K
    try simp only [Act.put, List.setIfInBounds_toArray, List.set_cons_zero, List.set_cons_succ]
    refine wpP_done (by kernel_rfl) ?_ _
  case' ca792012 =>
    go_simp
    go_at_call 122
    refine (word_int s _ _ (by decide) (by have := HS.out; simp; omega) (by have := HS.out; omega)).mono ?_
    simp only [Int.reduceToNat]
    rintro e w3 ⟨rfl, rfl⟩
    refine hK.out _ _ ?_ (fun hHeld => ?_)
    · exact trivial
    clear hK K
    try simp only [Act.put, List.setIfInBounds_toArray, List.set_cons_zero, List.set_cons_succ]
    refine wpP_ready (rs := [9, 19]) (by kernel_rfl) (by simp) ?_
    refine AllP.cons (o := ?o792022) ?ho792022 (fun K hK => ?ca792022) (AllP.cons (o := ?oo792022) ?hoo792022 (fun K hK => ?al792022) AllP.nil)
    case ho792022 => (simp only [List.getElem?_toArray, List.getElem?_cons_succ, List.getElem?_cons_zero]; exact rfl)
    case hoo792022 => (simp only [List.getElem?_toArray, List.getElem?_cons_succ, List.getElem?_cons_zero]; exact rfl)
    case' al792022 =>
      go_simp
      refine hK.out _ _ ?_ (fun hHeld => ?_)
      · exact trivial
      clear hK K
      try simp only [Act.put, List.setIfInBounds_toArray, List.set_cons_zero, List.set_cons_succ]
      refine wpP_ready (rs := [9]) (by kernel_rfl) (by simp) ?_
      refine AllP.cons (o := ?o792023) ?ho792023 (fun K hK => ?_) AllP.nil
      case ho792023 => (simp only [List.getElem?_toArray, List.getElem?_cons_succ, List.getElem?_cons_zero]; exact rfl)
      go_simp
      go_at_call 122
      refine (word_int s _ _ (by decide) (by have := HS.out; simp; omega) (by have := HS.out; omega)).mono ?_
      simp only [Int.reduceToNat]
      rintro e w3 ⟨rfl, rfl⟩
      refine hK.out _ _ ?_ (fun hHeld => ?_)
      · exact trivial
      clear hK K
      try simp only [Act.put, List.setIfInBounds_toArray, List.set_cons_zero, List.set_cons_succ]
      refine wpP_ready (rs := [11]) (by kernel_rfl) (by simp) ?_
      refine AllP.cons (o := ?o792024) ?ho792024 (fun K hK => ?_) AllP.nil
      case ho792024 => (simp only [List.getElem?_toArray, List.getElem?_cons_succ, List.getElem?_cons_zero]; exact rfl)
      go_simp
      go_at_call 122
      refine (word_int s _ _ (by decide) (by have := HS.out; simp; omega) (by have := HS.out; omega)).mono ?_
      simp only [Int.reduceToNat]
      rintro e w3 ⟨rfl, rfl⟩
      refine hK.out _ _ ?_ (fun hHeld => ?_)
      · exact trivial
      clear hK K
      try simp only [Act.put, List.setIfInBounds_toArray, List.set_cons_zero, List.set_cons_succ]
      refine wpP_take (i := 12) (oi := ?oi792025) (v := ?v792025) ?hi792025 (by kernel_rfl) (by kernel_rfl) (by kernel_rfl) (by kernel_rfl) ?hQ792025 ?hy792025 (by assumption) ?rest792025
      case hi792025 => (simp only [List.getElem?_toArray, List.getElem?_cons_succ, List.getElem?_cons_zero]; exact rfl)
      case hQ792025 => exact fun _ _ _ h => h
      case hy792025 => (refine Or.inl ⟨by kernel_rfl, ?_⟩; intro w hSw; (try dsimp only at hSw); go_simp; try (with_reducible rfl))
      try simp only [Act.put, List.setIfInBounds_toArray, List.set_cons_zero, List.set_cons_succ]
      refine wpP_take (i := 13) (oi := ?oi792026) (v := ?v792026) ?hi792026 (by kernel_rfl) (by kernel_rfl) (by kernel_rfl) (by kernel_rfl) ?hQ792026 ?hy792026 (by assumption) ?rest792026
      case hi792026 => (simp only [List.getElem?_toArray, List.getElem?_cons_succ, List.getElem?_cons_zero]; exact rfl)
      case hQ792026 => exact fun _ _ _ h => h
      case hy792026 => (refine Or.inl ⟨by kernel_rfl, ?_⟩; intro w hSw; (try dsimp only at hSw); go_simp; try (with_reducible rfl))
      try simp only [Act.put, List.setIfInBounds_toArray, List.set_cons_zero, List.set_cons_succ]
      refine wpP_ready (rs := [15]) (by kernel_rfl) (by simp) ?_
      refine AllP.cons (o := ?o792027) ?ho792027 (fun K hK => ?_) AllP.nil
      case ho792027 => (simp only [List.getElem?_toArray, List.getElem?_cons_succ, List.getElem?_cons_zero]; exact rfl)
      go_simp
      go_at_call 122
      refine (word_int s _ _ (by decide) (by have := HS.out; simp; omega) (by have := HS.out; omega)).mono ?_
      simp only [Int.reduceToNat]
      rintro e w3 ⟨rfl, rfl⟩
      refine hK.out _ _ ?_ (fun hHeld => ?_)
      · exact trivial
      clear hK K
      try simp only [Act.put, List.setIfInBounds_toArray, List.set_cons_zero, List.set_cons_succ]
      refine wpP_ready (rs := [17]) (by kernel_rfl) (by simp) ?_
      refine AllP.cons (o := ?o792028) ?ho792028 (fun K hK => ?_) AllP.nil
      case ho792028 => (simp only [List.getElem?_toArray, List.getElem?_cons_succ, List.getElem?_cons_zero]; exact rfl)
      go_simp
      go_at_call 122
      refine (word_int s _ _ (by decide) (by have := HS.out; simp; omega) (by have := HS.out; omega)).mono ?_
      simp only [Int.reduceToNat]
      rintro e w3 ⟨rfl, rfl⟩
      refine hK.out _ _ ?_ (fun hHeld => ?_)
      · exact trivial
      clear hK K
      try simp only [Act.put, List.setIfInBounds_toArray, List.set_cons_zero, List.set_cons_succ]
      refine wpP_take (i := 18) (oi := ?oi792029) (v := ?v792029) ?hi792029 (by kernel_rfl) (by kernel_rfl) (by kernel_rfl) (by kernel_rfl) ?hQ792029 ?hy792029 (by assumption) ?rest792029
      case hi792029 => (simp only [List.getElem?_toArray, List.getElem?_cons_succ, List.getElem?_cons_zero]; exact rfl)
      case hQ792029 => exact fun _ _ _ h => h
      case hy792029 => (refine Or.inl ⟨by kernel_rfl, ?_⟩; intro w hSw; (try dsimp only at hSw); go_simp; try (with_reducible rfl))
      try simp only [Act.put, List.setIfInBounds_toArray, List.set_cons_zero, List.set_cons_succ]
      refine wpP_ready (rs := [20]) (by kernel_rfl) (by simp) ?_
      refine AllP.cons (o := ?o792030) ?ho792030 (fun K hK => ?_) AllP.nil
      case ho792030 => (simp only [List.getElem?_toArray, List.getElem?_cons_succ, List.getElem?_cons_zero]; exact rfl)
      go_simp
      refine hK.out _ _ ?_ (fun hHeld => ?_)
      · exact trivial
      clear hK K
      try simp only [Act.put, List.setIfInBounds_toArray, List.set_cons_zero, List.set_cons_succ]
      refine wpP_done (by kernel_rfl) ?_ _
    case' ca792022 =>
      go_simp
      go_at_call 122
      refine (word_int s _ _ (by decide) (by have := HS.out; simp; omega) (by have := HS.out; omega)).mono ?_
      simp only [Int.reduceToNat]
      rintro e w3 ⟨rfl, rfl⟩
      refine hK.out _ _ ?_ (fun hHeld => ?_)
      · exact trivial
      clear hK K
      try simp only [Act.put, List.setIfInBounds_toArray, List.set_cons_zero, List.set_cons_succ]
      refine wpP_ready (rs := [11, 19]) (by kernel_rfl) (by simp) ?_
      refine AllP.cons (o := ?o792031) ?ho792031 (fun K hK => ?ca792031) (AllP.cons (o := ?oo792031) ?hoo792031 (fun K hK => ?al792031) AllP.nil)
      case ho792031 => (simp only [List.getElem?_toArray, List.getElem?_cons_succ, List.getElem?_cons_zero]; exact rfl)
      case hoo792031 => (simp only [List.getElem?_toArray, List.getElem?_cons_succ, List.getElem?_cons_zero]; exact rfl)
      case' al792031 =>
        go_simp
        refine hK.out _ _ ?_ (fun hHeld => ?_)
        · exact trivial
        clear hK K
        try simp only [Act.put, List.setIfInBounds_toArray, List.set_cons_zero, List.set_cons_succ]
        refine wpP_ready (rs := [11]) (by kernel_rfl) (by simp) ?_
        refine AllP.cons (o := ?o792032) ?ho792032 (fun K hK => ?_) AllP.nil
        case ho792032 => (simp only [List.getElem?_toArray, List.getElem?_cons_succ, List.getElem?_cons_zero]; exact rfl)
        go_simp
        go_at_call 122
        refine (word_int s _ _ (by decide) (by have := HS.out; simp; omega) (by have := HS.out; omega)).mono ?_
        simp only [Int.reduceToNat]
        rintro e w3 ⟨rfl, rfl⟩
        refine hK.out _ _ ?_ (fun hHeld => ?_)
        · exact trivial
        clear hK K
        try simp only [Act.put, List.setIfInBounds_toArray, List.set_cons_zero, List.set_cons_succ]
        refine wpP_take (i := 12) (oi := ?oi792033) (v := ?v792033) ?hi792033 (by kernel_rfl) (by kernel_rfl) (by kernel_rfl) (by kernel_rfl) ?hQ792033 ?hy792033 (by assumption) ?rest792033
        case hi792033 => (simp only [List.getElem?_toArray, List.getElem?_cons_succ, List.getElem?_cons_zero]; exact rfl)
        case hQ792033 => exact fun _ _ _ h => h
        case hy792033 => (refine Or.inl ⟨by kernel_rfl, ?_⟩; intro w hSw; (try dsimp only at hSw); go_simp; try (with_reducible rfl))
        try simp only [Act.put, List.setIfInBounds_toArray, List.set_cons_zero, List.set_cons_succ]
        refine wpP_take (i := 13) (oi := ?oi792034) (v := ?v792034) ?hi792034 (by kernel_rfl) (by kernel_rfl) (by kernel_rfl) (by kernel_rfl) ?hQ792034 ?hy792034 (by assumption) ?rest792034
        case hi792034 => (simp only [List.getElem?_toArray, List.getElem?_cons_succ, List.getElem?_cons_zero]; exact rfl)
        case hQ792034 => exact fun _ _ _ h => h
        case hy792034 => (refine Or.inl ⟨by kernel_rfl, ?_⟩; intro w hSw; (try dsimp only at hSw); go_simp; try (with_reducible rfl))
        try simp only [Act.put, List.setIfInBounds_toArray, List.set_cons_zero, List.set_cons_succ]
        refine wpP_ready (rs := [15]) (by kernel_rfl) (by simp) ?_
        refine AllP.cons (o := ?o792035) ?ho792035 (fun K hK => ?_) AllP.nil
        case ho792035 => (simp only [List.getElem?_toArray, List.getElem?_cons_succ, List.getElem?_cons_zero]; exact rfl)
        go_simp
        go_at_call 122
        refine (word_int s _ _ (by decide) (by have := HS.out; simp; omega) (by have := HS.out; omega)).mono ?_
        simp only [Int.reduceToNat]
        rintro e w3 ⟨rfl, rfl⟩
        refine hK.out _ _ ?_ (fun hHeld => ?_)
        · exact trivial
        clear hK K
        try simp only [Act.put, List.setIfInBounds_toArray, List.set_cons_zero, List.set_cons_succ]
        refine wpP_ready (rs := [17]) (by kernel_rfl) (by simp) ?_
        refine AllP.cons (o := ?o792036) ?ho792036 (fun K hK => ?_) AllP.nil
        case ho792036 => (simp only [List.getElem?_toArray, List.getElem?_cons_succ, List.getElem?_cons_zero]; exact rfl)
        go_simp
        go_at_call 122
        refine (word_int s _ _ (by decide) (by have := HS.out; simp; omega) (by have := HS.out; omega)).mono ?_
        simp only [Int.reduceToNat]
        rintro e w3 ⟨rfl, rfl⟩
        refine hK.out _ _ ?_ (fun hHeld => ?_)
        · exact trivial
        clear hK K
        try simp only [Act.put, List.setIfInBounds_toArray, List.set_cons_zero, List.set_cons_succ]
        refine wpP_take (i := 18) (oi := ?oi792037) (v := ?v792037) ?hi792037 (by kernel_rfl) (by kernel_rfl) (by kernel_rfl) (by kernel_rfl) ?hQ792037 ?hy792037 (by assumption) ?rest792037
        case hi792037 => (simp only [List.getElem?_toArray, List.getElem?_cons_succ, List.getElem?_cons_zero]; exact rfl)
        case hQ792037 => exact fun _ _ _ h => h
        case hy792037 => (refine Or.inl ⟨by kernel_rfl, ?_⟩; intro w hSw; (try dsimp only at hSw); go_simp; try (with_reducible rfl))
        try simp only [Act.put, List.setIfInBounds_toArray, List.set_cons_zero, List.set_cons_succ]
        refine wpP_ready (rs := [20]) (by kernel_rfl) (by simp) ?_
        refine AllP.cons (o := ?o792038) ?ho792038 (fun K hK => ?_) AllP.nil
        case ho792038 => (simp only [List.getElem?_toArray, List.getElem?_cons_succ, List.getElem?_cons_zero]; exact rfl)
        go_simp
        refine hK.out _ _ ?_ (fun hHeld => ?_)
        · exact trivial
        clear hK K
        try simp only [Act.put, List.setIfInBounds_toArray, List.set_cons_zero, List.set_cons_succ]
        refine wpP_done (by kernel_rfl) ?_ _
      case' ca792031 =>
        go_simp
        go_at_call 122
        refine (word_int s _ _ (by decide) (by have := HS.out; simp; omega) (by have := HS.out; omega)).mono ?_
        simp only [Int.reduceToNat]
        rintro e w3 ⟨rfl, rfl⟩
        refine hK.out _ _ ?_ (fun hHeld => ?_)
        · exact trivial
        clear hK K
        try simp only [Act.put, List.setIfInBounds_toArray, List.set_cons_zero, List.set_cons_succ]
        refine wpP_take (i := 12) (oi := ?oi792039) (v := ?v792039) ?hi792039 (by kernel_rfl) (by kernel_rfl) (by kernel_rfl) (by kernel_rfl) ?hQ792039 ?hy792039 (by assumption) ?rest792039
        case hi792039 => (simp only [List.getElem?_toArray, List.getElem?_cons_succ, List.getElem?_cons_zero]; exact rfl)
        case hQ792039 => exact fun _ _ _ h => h
        case hy792039 => (refine Or.inl ⟨by kernel_rfl, ?_⟩; intro w hSw; (try dsimp only at hSw); go_simp; try (with_reducible rfl))
        try simp only [Act.put, List.setIfInBounds_toArray, List.set_cons_zero, List.set_cons_succ]
        refine wpP_take (i := 13) (oi := ?oi792040) (v := ?v792040) ?hi792040 (by kernel_rfl) (by kernel_rfl) (by kernel_rfl) (by kernel_rfl) ?hQ792040 ?hy792040 (by assumption) ?rest792040
        case hi792040 => (simp only [List.getElem?_toArray, List.getElem?_cons_succ, List.getElem?_cons_zero]; exact rfl)
        case hQ792040 => exact fun _ _ _ h => h
        case hy792040 => (refine Or.inl ⟨by kernel_rfl, ?_⟩; intro w hSw; (try dsimp only at hSw); go_simp; try (with_reducible rfl))
        try simp only [Act.put, List.setIfInBounds_toArray, List.set_cons_zero, List.set_cons_succ]
        refine wpP_ready (rs := [15, 19]) (by kernel_rfl) (by simp) ?_
        refine AllP.cons (o := ?o792041) ?ho792041 (fun K hK => ?ca792041) (AllP.cons (o := ?oo792041) ?hoo792041 (fun K hK => ?al792041) AllP.nil)
        case ho792041 => (simp only [List.getElem?_toArray, List.getElem?_cons_succ, List.getElem?_cons_zero]; exact rfl)
        case hoo792041 => (simp only [List.getElem?_toArray, List.getElem?_cons_succ, List.getElem?_cons_zero]; exact rfl)
        case' al792041 =>
          go_simp
          refine hK.out _ _ ?_ (fun hHeld => ?_)
          · exact trivial
          clear hK K
          try simp only [Act.put, List.setIfInBounds_toArray, List.set_cons_zero, List.set_cons_succ]
          refine wpP_ready (rs := [15]) (by kernel_rfl) (by simp) ?_
          refine AllP.cons (o := ?o792042) ?ho792042 (fun K hK => ?_) AllP.nil
          case ho792042 => (simp only [List.getElem?_toArray, List.getElem?_cons_succ, List.getElem?_cons_zero]; exact rfl)
          go_simp
          go_at_call 122
          refine (word_int s _ _ (by decide) (by have := HS.out; simp; omega) (by have := HS.out; omega)).mono ?_
          simp only [Int.reduceToNat]
          rintro e w3 ⟨rfl, rfl⟩
          refine hK.out _ _ ?_ (fun hHeld => ?_)
          · exact trivial
          clear hK K
          try simp only [Act.put, List.setIfInBounds_toArray, List.set_cons_zero, List.set_cons_succ]
          refine wpP_ready (rs := [17]) (by kernel_rfl) (by simp) ?_
          refine AllP.cons (o := ?o792043) ?ho792043 (fun K hK => ?_) AllP.nil
          case ho792043 => (simp only [List.getElem?_toArray, List.getElem?_cons_succ, List.getElem?_cons_zero]; exact rfl)
          go_simp
          go_at_call 122
          refine (word_int s _ _ (by decide) (by have := HS.out; simp; omega) (by have := HS.out; omega)).mono ?_
          simp only [Int.reduceToNat]
          rintro e w3 ⟨rfl, rfl⟩
          refine hK.out _ _ ?_ (fun hHeld => ?_)
          · exact trivial
          clear hK K
          try simp only [Act.put, List.setIfInBounds_toArray, List.set_cons_zero, List.set_cons_succ]
          refine wpP_take (i := 18) (oi := ?oi792044) (v := ?v792044) ?hi792044 (by kernel_rfl) (by kernel_rfl) (by kernel_rfl) (by kernel_rfl) ?hQ792044 ?hy792044 (by assumption) ?rest792044
          case hi792044 => (simp only [List.getElem?_toArray, List.getElem?_cons_succ, List.getElem?_cons_zero]; exact rfl)
          case hQ792044 => exact fun _ _ _ h => h
          case hy792044 => (refine Or.inl ⟨by kernel_rfl, ?_⟩; intro w hSw; (try dsimp only at hSw); go_simp; try (with_reducible rfl))
          try simp only [Act.put, List.setIfInBounds_toArray, List.set_cons_zero, List.set_cons_succ]
          refine wpP_ready (rs := [20]) (by kernel_rfl) (by simp) ?_
          refine AllP.cons (o := ?o792045) ?ho792045 (fun K hK => ?_) AllP.nil
          case ho792045 => (simp only [List.getElem?_toArray, List.getElem?_cons_succ, List.getElem?_cons_zero]; exact rfl)
          go_simp
          refine hK.out _ _ ?_ (fun hHeld => ?_)
          · exact trivial
          clear hK K
          try simp only [Act.put, List.setIfInBounds_toArray, List.set_cons_zero, List.set_cons_succ]
          refine wpP_done (by kernel_rfl) ?_ _
        case' ca792041 =>
          go_simp
          go_at_call 122
          refine (word_int s _ _ (by decide) (by have := HS.out; simp; omega) (by have := HS.out; omega)).mono ?_
          simp only [Int.reduceToNat]
          rintro e w3 ⟨rfl, rfl⟩
          refine hK.out _ _ ?_ (fun hHeld => ?_)
          · exact trivial
          clear hK K
          try simp only [Act.put, List.setIfInBounds_toArray, List.set_cons_zero, List.set_cons_succ]
          refine wpP_ready (rs := [17, 19]) (by kernel_rfl) (by simp) ?_
          refine AllP.cons (o := ?o792046) ?ho792046 (fun K hK => ?ca792046) (AllP.cons (o := ?oo792046) ?hoo792046 (fun K hK => ?al792046) AllP.nil)
          case ho792046 => (simp only [List.getElem?_toArray, List.getElem?_cons_succ, List.getElem?_cons_zero]; exact rfl)
          case hoo792046 => (simp only [List.getElem?_toArray, List.getElem?_cons_succ, List.getElem?_cons_zero]; exact rfl)
          case' al792046 =>
            go_simp
            refine hK.out _ _ ?_ (fun hHeld => ?_)
            · exact trivial
            clear hK K
            try simp only [Act.put, List.setIfInBounds_toArray, List.set_cons_zero, List.set_cons_succ]
            refine wpP_ready (rs := [17]) (by kernel_rfl) (by simp) ?_
            refine AllP.cons (o := ?o792047) ?ho792047 (fun K hK => ?_) AllP.nil
            case ho792047 => (simp only [List.getElem?_toArray, List.getElem?_cons_succ, List.getElem?_cons_zero]; exact rfl)
            go_simp
            go_at_call 122
            refine (word_int s _ _ (by decide) (by have := HS.out; simp; omega) (by have := HS.out; omega)).mono ?_
            simp only [Int.reduceToNat]
            rintro e w3 ⟨rfl, rfl⟩
            refine hK.out _ _ ?_ (fun hHeld => ?_)
            · exact trivial
            clear hK K
            try simp only [Act.put, List.setIfInBounds_toArray, List.set_cons_zero, List.set_cons_succ]
            refine wpP_take (i := 18) (oi := ?oi792048) (v := ?v792048) ?hi792048 (by kernel_rfl) (by kernel_rfl) (by kernel_rfl) (by kernel_rfl) ?hQ792048 ?hy792048 (by assumption) ?rest792048
            case hi792048 => (simp only [List.getElem?_toArray, List.getElem?_cons_succ, List.getElem?_cons_zero]; exact rfl)
            case hQ792048 => exact fun _ _ _ h => h
            case hy792048 => (refine Or.inl ⟨by kernel_rfl, ?_⟩; intro w hSw; (try dsimp only at hSw); go_simp; try (with_reducible rfl))
            try simp only [Act.put, List.setIfInBounds_toArray, List.set_cons_zero, List.set_cons_succ]
            refine wpP_ready (rs := [20]) (by kernel_rfl) (by simp) ?_
            refine AllP.cons (o := ?o792049) ?ho792049 (fun K hK => ?_) AllP.nil
            case ho792049 => (simp only [List.getElem?_toArray, List.getElem?_cons_succ, List.getElem?_cons_zero]; exact rfl)
            go_simp
            refine hK.out _ _ ?_ (fun hHeld => ?_)
            · exact trivial
            clear hK K
            try simp only [Act.put, List.setIfInBounds_toArray, List.set_cons_zero, List.set_cons_succ]
            refine wpP_done (by kernel_rfl) ?_ _
          case' ca792046 =>
            go_simp
            go_at_call 122
            refine (word_int s _ _ (by decide) (by have := HS.out; simp; omega) (by have := HS.out; omega)).mono ?_
            simp only [Int.reduceToNat]
            rintro e w3 ⟨rfl, rfl⟩
            refine hK.out _ _ ?_ (fun hHeld => ?_)
            · exact trivial
            clear hK K
            try simp only [Act.put, List.setIfInBounds_toArray, List.set_cons_zero, List.set_cons_succ]
            refine wpP_take (i := 18) (oi := ?oi792050) (v := ?v792050) ?hi792050 (by kernel_rfl) (by kernel_rfl) (by kernel_rfl) (by kernel_rfl) ?hQ792050 ?hy792050 (by assumption) ?rest792050
            case hi792050 => (simp only [List.getElem?_toArray, List.getElem?_cons_succ, List.getElem?_cons_zero]; exact rfl)
            case hQ792050 => exact fun _ _ _ h => h
            case hy792050 => (refine Or.inl ⟨by kernel_rfl, ?_⟩; intro w hSw; (try dsimp only at hSw); go_simp; try (with_reducible rfl))
            try simp only [Act.put, List.setIfInBounds_toArray, List.set_cons_zero, List.set_cons_succ]
            refine wpP_ready (rs := [19]) (by kernel_rfl) (by simp) ?_
            refine AllP.cons (o := ?o792051) ?ho792051 (fun K hK => ?_) AllP.nil
            case ho792051 => (simp only [List.getElem?_toArray, List.getElem?_cons_succ, List.getElem?_cons_zero]; exact rfl)
            go_simp
            refine hK.out _ _ ?_ (fun hHeld => ?_)
            · exact trivial
            clear hK K
            try simp only [Act.put, List.setIfInBounds_toArray, List.set_cons_zero, List.set_cons_succ]
            refine wpP_ready (rs := [20]) (by kernel_rfl) (by simp) ?_
            refine AllP.cons (o := ?o792052) ?ho792052 (fun K hK => ?_) AllP.nil
            case ho792052 => (simp only [List.getElem?_toArray, List.getElem?_cons_succ, List.getElem?_cons_zero]; exact rfl)
            go_simp
            refine hK.out _ _ ?_ (fun hHeld => ?_)
            · exact trivial
            clear hK K
            try simp only [Act.put, List.setIfInBounds_toArray, List.set_cons_zero, List.set_cons_succ]
            refine wpP_done (by kernel_rfl) ?_ _
  all_goals
    refine at_world (fun W => W.heap[w.heap.size]? = some (.cells #[.int .i64 0, .int .i64 0, .int .i64 0, .int .i64 0, .int .i64 0, .int .i64 0, .int .i64 0, .int .i64 0, .int .i64 0, .int .i64 0, .int .i64 0, .int .i64 0] 45 (0, 0)) ∧ W.heap[w.heap.size + 1]? = some (.cells (xcells (stl s 0)) 45 (0, 0)) ∧ Below w.heap.size w W) ?_ ?_
    · exact ⟨K1.out, K2.out, K3.out⟩
    · rintro W ⟨e1, e2, e3⟩
      have E1 := Lib.hid e1
      have E2 := Lib.hid e2
      have E3 := Lib.hid e3
      clear e1 e2 e3
      go_wp2
      go_loopw [4] (fun iv wr => ∃ k : Nat, k ≤ 6 ∧ iv = .int .i64 k ∧ Hid (wr.heap[w.heap.size]? = some (.cells #[.int .i64 0, .int .i64 0, .int .i64 0, .int .i64 0, .int .i64 0, .int .i64 0, .int .i64 0, .int .i64 0, .int .i64 0, .int .i64 0, .int .i64 0, .int .i64 0] 45 (0, 0))) ∧ Hid (wr.heap[w.heap.size + 1]? = some (.cells (xcells (stl s k)) 45 (0, 0))) ∧ Hid (Below w.heap.size w wr)) (fun iv _ => 6 - (intOf iv).toNat)
      case atStart => exact ⟨0, by omega, rfl, E1, E2, E3⟩
      case round =>
        obtain ⟨k, hk, rfl, e1, e2, e3⟩ := hrel
        by_cases hlt : k < 6
        · have hfr := free_of e2.out (4 + k)
          have hce : wr.cell? ⟨w.heap.size + 1, 4 + k, none⟩ = some (.int .i64 (((stl s k).getD (4 + k) 0 : Nat) : Int)) := by rw [cell_at e2.out, xcells_get _ _ (by rw [stl_len]; omega)]
          have hki : (k : Int) < 6 := by omega
          go_wp2_with (go_at_call 122; refine (word_at s (8 + 2 * k) _ _ (by omega) (by omega) (by have := HS.out; omega)).mono ?_; rintro e w3 ⟨rfl, rfl⟩)
          refine ⟨⟨k + 1, by omega, by go_num, ?_, ?_, ?_⟩, by simp only [intOf]; omega⟩
          · exact blk_set_other e1.out (by omega) _ _
          · have := blk_set e2.out (4 + k) (.int .i64 ((w2 s (8 + 2 * k) : Nat) : Int))
            rw [xcells_set, ← stl_succ] at this
            exact this
          · exact below_set e3.out.drew (by omega)
        · obtain rfl : k = 6 := by omega
          have h2 := e2.out
          rw [stl_all] at h2
          obtain ⟨q0, q1, q2, q3, q4, q5, q6, q7, q8, q9, q10, q11⟩ := cells12 (a0 := .int .i64 (((inoOf s).kind : Nat) : Int)) h2
          obtain ⟨r0, r1, r2, r3, r4, r5, r6, r7, r8, r9, r10, r11⟩ := cells12 (a0 := .int .i64 0) e1.out
          obtain ⟨f0, f1, f2, f3, f4, f5, f6, f7, f8, f9, f10, f11⟩ := frees12 e1.out
          clear h2
          go_wp2
          have hbf := blk_set12 (b0 := .int .i64 0) (a0 := .int .i64 (((inoOf s).kind : Nat) : Int)) (a1 := .int .i64 (((inoOf s).links : Nat) : Int)) (a2 := .int .i64 (((inoOf s).owner : Nat) : Int)) (a3 := .int .i64 (((inoOf s).size : Nat) : Int)) (a4 := .int .i64 (((inoOf s).d0 : Nat) : Int)) (a5 := .int .i64 (((inoOf s).d1 : Nat) : Int)) (a6 := .int .i64 (((inoOf s).d2 : Nat) : Int)) (a7 := .int .i64 (((inoOf s).d3 : Nat) : Int)) (a8 := .int .i64 (((inoOf s).d4 : Nat) : Int)) (a9 := .int .i64 (((inoOf s).d5 : Nat) : Int)) (a10 := .int .i64 (((inoOf s).ind : Nat) : Int)) (a11 := .int .i64 (((inoOf s).ext : Nat) : Int)) e1.out
          obtain ⟨c0, c1, c2, c3, c4, c5, c6, c7, c8, c9, c10, c11⟩ := cells12 hbf
          refine bodyPost_ret (v := .agg #[.int .i64 (((inoOf s).kind : Nat) : Int), .int .i64 (((inoOf s).links : Nat) : Int), .int .i64 (((inoOf s).owner : Nat) : Int), .int .i64 (((inoOf s).size : Nat) : Int), .int .i64 (((inoOf s).d0 : Nat) : Int), .int .i64 (((inoOf s).d1 : Nat) : Int), .int .i64 (((inoOf s).d2 : Nat) : Int), .int .i64 (((inoOf s).d3 : Nat) : Int), .int .i64 (((inoOf s).d4 : Nat) : Int), .int .i64 (((inoOf s).d5 : Nat) : Int), .int .i64 (((inoOf s).ind : Nat) : Int), .int .i64 (((inoOf s).ext : Nat) : Int)]) (by simp [results, Try.results97, go_sem, c0, c1, c2, c3, c4, c5, c6, c7, c8, c9, c10, c11]) rfl ⟨rfl, ?_⟩
          exact below_set12 e3.out (Nat.le_refl _)
end Go.Proofs.Ytacdohlhalnioaa

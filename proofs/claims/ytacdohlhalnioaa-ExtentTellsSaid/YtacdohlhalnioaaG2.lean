/- Contracts: a map with a bit turned (the program's and the document's). -/
import Derived.Test.YtacdohlhalnioaaG1
import Derived.Test.YtacdohlhalnioaaC4
import Derived.Lib.BufferWrite
set_option linter.unusedVariables false
set_option maxRecDepth 20000
namespace Go.Proofs.Ytacdohlhalnioaa
open Go.RowKit
attribute [local go_sem] Oper.semAt_some

theorem byteCells_bvs (l : Blk) : (Lib.byteCells l).toArray = bvs l := rfl
theorem copy_u8 (m : Blk) (W : World) (g ty : Nat) (cur : Array Value) (hg : W.heap[g]? = some (.cells cur 5 (0, 0))) (hc : cur.size = m.length) :
    (Builtin.copy_ #[62, 9] ty #[.slice (some ⟨g, 0, none⟩) m.length m.length, .string (mk m)]).run Try.prog W = .ok (goInt m.length) (W.setRow g (bvs m)) := by
  rw [Lib.run_copy_row_string W _ _ ty 5 g 0 m.length m.length (mk m) cur 5 Try.underlying62 (by kernel_rfl) hg (by simp) (by simp [hc])]
  simp only [mk_size, mk_toList]
  congr 2
  rw [← byteCells_bvs, List.take_zero, List.nil_append, Nat.zero_add, List.drop_of_length_le (by simp [hc]), List.append_nil]
theorem bxor (m : Blk) (i : Nat) : ((gb m (i / 8) : Nat) : Int) = ((gb m (i / 8) : Nat) : Int) := rfl
theorem wrap_bit (q : Nat) (h : q < 8) : IntKind.u8.wrap (2 ^ q) = ((2 ^ q : Nat) : Int) := by
  rcases (by omega : q = 0 ∨ q = 1 ∨ q = 2 ∨ q = 3 ∨ q = 4 ∨ q = 5 ∨ q = 6 ∨ q = 7) with rfl | rfl | rfl | rfl | rfl | rfl | rfl | rfl <;> rfl
theorem bits_xor (a q : Nat) (ha : a < 256) (hq : q < 8) : bits BinOp.xor IntKind.u8 (a : Int) (2 ^ q) = ((a ^^^ 2 ^ q : Nat) : Int) := by
  rw [two_pow]
  exact u8_xor_nat a (2 ^ q) ha (show 2 ^ q < 2 ^ 8 from Nat.pow_lt_pow_right (by omega) hq)
theorem xor_lt (a q : Nat) (ha : a < 256) (hq : q < 8) : a ^^^ 2 ^ q < 256 := Nat.xor_lt_two_pow (n := 8) ha (Nat.pow_lt_pow_right (by omega) hq)
set_option maxHeartbeats 1000000 in
theorem turn_ok (m : Blk) (i : Nat) (w : World) (hm : m.length = 128) (h : i < 1024) :
    Calls Try.prog 93 #[.string (mk m), .int .i64 i] w fun e w' => e = .returned (.string (mk (turn m i))) ∧ Below w.heap.size w w' := by
  have hmk := mk_u8 m.length (by omega)
  have hcp := fun ty => copy_u8 m (w.alloc (.cells (bvs (zs m.length)) 5)) w.heap.size ty _ (blk_new w _) (by simp [bvs_size])
  have hrow : ((w.alloc (.cells (bvs (zs m.length)) 5)).setRow w.heap.size (bvs m)).heap[w.heap.size]? = some (.cells (bvs m) 5 (0, 0)) := setRow_heap _ _ _ _ _ _ (blk_new w _)
  have hB1 : Below w.heap.size w ((w.alloc (.cells (bvs (zs m.length)) 5)).setRow w.heap.size (bvs m)) := below_setRow ((Below.refl _ _).alloc (Nat.le_refl _) _) (Nat.le_refl _) _
  generalize (w.alloc (.cells (bvs (zs m.length)) 5)).setRow w.heap.size (bvs m) = W1 at *
  have h1 : (0 : Int) ≤ (i : Int) / 8 := by omega
  have h2 : (i : Int) / 8 < (m.length : Nat) := by omega
  have hk : i / 8 < m.length := by omega
  have hc : W1.cell? ⟨w.heap.size, i / 8, none⟩ = some (.int .u8 (gb m (i / 8) : Nat)) := by rw [cell_at hrow, bvs_get _ _ hk]
  have hf := free_of hrow (i / 8)
  have HR := Lib.hid hrow
  have hw8 : IntKind.i64.wrap ((i : Int) / 8) = (i : Int) / 8 := by simp [IntKind.wrap, IntKind.bits, IntKind.signed]; omega
  have htn : ((i : Int) / 8).toNat = i / 8 := by omega
  obtain ⟨q, hq⟩ : ∃ q : Nat, i % 8 = q := ⟨_, rfl⟩
  have hsm : (i : Int).tmod 8 = (q : Int) := by rw [Int.tmod_eq_emod_of_nonneg (by omega)]; omega
  have hq8 : (q : Int) ≤ 8 := by omega
  have hwq : IntKind.i64.wrap (q : Int) = (q : Int) := by simp [IntKind.wrap, IntKind.bits, IntKind.signed]; omega
  have hwp : IntKind.u8.wrap (2 ^ q) = ((2 ^ q : Nat) : Int) := wrap_bit q (by omega)
  have hml : m.length ≤ 1024 := by omega
  have HM := Lib.hid hm
  clear hrow hm
  go_enter Try.func93, Try.ntmps93
  go_wp2
  refine region_P (fun w' => w'.cell? ⟨w.heap.size, i / 8, none⟩ = some (.int .u8 (gb m (i / 8) : Nat)) ∧ w'.frozen? ⟨w.heap.size, i / 8, none⟩ = false) [10] (by kernel_rfl) ?_ (fun hHeld => ?_)
  · exact ⟨by simpa using hc, by simpa using hf⟩
  refine wpP_take (i := 0) (oi := ?oi212001) (v := ?v212001) ?hi212001 (by kernel_rfl) (by kernel_rfl) (by kernel_rfl) (by kernel_rfl) ?hQ212001 ?hy212001 (by assumption) ?rest212001
  case hi212001 => (simp only [List.getElem?_toArray, List.getElem?_cons_succ, List.getElem?_cons_zero]; exact rfl)
  case hQ212001 => exact fun _ _ _ h => h
  case hy212001 => (refine Or.inl ⟨by kernel_rfl, ?_⟩; intro w hSw; (try dsimp only at hSw); go_simp; try (with_reducible rfl))
  try simp only [Act.put, List.setIfInBounds_toArray, List.set_cons_zero, List.set_cons_succ]
  refine wpP_take (i := 1) (oi := ?oi212002) (v := ?v212002) ?hi212002 (by kernel_rfl) (by kernel_rfl) (by kernel_rfl) (by kernel_rfl) ?hQ212002 ?hy212002 (by assumption) ?rest212002
  case hi212002 => (simp only [List.getElem?_toArray, List.getElem?_cons_succ, List.getElem?_cons_zero]; exact rfl)
  case hQ212002 => exact fun _ _ _ h => h
  case hy212002 => (refine Or.inl ⟨by kernel_rfl, ?_⟩; intro w hSw; (try dsimp only at hSw); go_simp; try (with_reducible rfl))
  try simp only [Act.put, List.setIfInBounds_toArray, List.set_cons_zero, List.set_cons_succ]
  refine wpP_take (i := 2) (oi := ?oi212003) (v := ?v212003) ?hi212003 (by kernel_rfl) (by kernel_rfl) (by kernel_rfl) (by kernel_rfl) ?hQ212003 ?hy212003 (by assumption) ?rest212003
  case hi212003 => (simp only [List.getElem?_toArray, List.getElem?_cons_succ, List.getElem?_cons_zero]; exact rfl)
  case hQ212003 => exact fun _ _ _ h => h
  case hy212003 => (refine Or.inl ⟨by kernel_rfl, ?_⟩; intro w hSw; (try dsimp only at hSw); go_simp; try (with_reducible rfl))
  try simp only [Act.put, List.setIfInBounds_toArray, List.set_cons_zero, List.set_cons_succ]
  refine wpP_take (i := 3) (oi := ?oi212004) (v := ?v212004) ?hi212004 (by kernel_rfl) (by kernel_rfl) (by kernel_rfl) (by kernel_rfl) ?hQ212004 ?hy212004 (by assumption) ?rest212004
  case hi212004 => (simp only [List.getElem?_toArray, List.getElem?_cons_succ, List.getElem?_cons_zero]; exact rfl)
  case hQ212004 => exact fun _ _ _ h => h
  case hy212004 => (refine Or.inl ⟨by kernel_rfl, ?_⟩; intro w hSw; (try dsimp only at hSw); go_simp; try (with_reducible rfl))
  try simp only [Act.put, List.setIfInBounds_toArray, List.set_cons_zero, List.set_cons_succ]
  refine wpP_take (i := 4) (oi := ?oi212005) (v := ?v212005) ?hi212005 (by kernel_rfl) (by kernel_rfl) (by kernel_rfl) (by kernel_rfl) ?hQ212005 ?hy212005 (by assumption) ?rest212005
  case hi212005 => (simp only [List.getElem?_toArray, List.getElem?_cons_succ, List.getElem?_cons_zero]; exact rfl)
  case hQ212005 => exact fun _ _ _ h => h
  case hy212005 => (refine Or.inl ⟨by kernel_rfl, ?_⟩; intro w hSw; (try dsimp only at hSw); go_simp; try (with_reducible rfl))
  try simp only [Act.put, List.setIfInBounds_toArray, List.set_cons_zero, List.set_cons_succ]
  refine wpP_take (i := 5) (oi := ?oi212006) (v := ?v212006) ?hi212006 (by kernel_rfl) (by kernel_rfl) (by kernel_rfl) (by kernel_rfl) ?hQ212006 ?hy212006 (by assumption) ?rest212006
  case hi212006 => (simp only [List.getElem?_toArray, List.getElem?_cons_succ, List.getElem?_cons_zero]; exact rfl)
  case hQ212006 => exact fun _ _ _ h => h
  case hy212006 => (refine Or.inl ⟨by kernel_rfl, ?_⟩; intro w hSw; (try dsimp only at hSw); go_simp; try (with_reducible rfl))
  try simp only [Act.put, List.setIfInBounds_toArray, List.set_cons_zero, List.set_cons_succ]
  refine wpP_take (i := 6) (oi := ?oi212007) (v := ?v212007) ?hi212007 (by kernel_rfl) (by kernel_rfl) (by kernel_rfl) (by kernel_rfl) ?hQ212007 ?hy212007 (by assumption) ?rest212007
  case hi212007 => (simp only [List.getElem?_toArray, List.getElem?_cons_succ, List.getElem?_cons_zero]; exact rfl)
  case hQ212007 => exact fun _ _ _ h => h
  case hy212007 => (refine Or.inl ⟨by kernel_rfl, ?_⟩; intro w hSw; (try dsimp only at hSw); go_simp; try (with_reducible rfl))
  try simp only [Act.put, List.setIfInBounds_toArray, List.set_cons_zero, List.set_cons_succ]
  refine wpP_take (i := 7) (oi := ?oi212008) (v := ?v212008) ?hi212008 (by kernel_rfl) (by kernel_rfl) (by kernel_rfl) (by kernel_rfl) ?hQ212008 ?hy212008 (by assumption) ?rest212008
  case hi212008 => (simp only [List.getElem?_toArray, List.getElem?_cons_succ, List.getElem?_cons_zero]; exact rfl)
  case hQ212008 => exact fun _ _ _ h => h
  case hy212008 => (refine Or.inl ⟨by kernel_rfl, ?_⟩; intro w hSw; (try dsimp only at hSw); go_simp; try (with_reducible rfl))
  try simp only [Act.put, List.setIfInBounds_toArray, List.set_cons_zero, List.set_cons_succ]
  refine wpP_take (i := 8) (oi := ?oi212009) (v := ?v212009) ?hi212009 (by kernel_rfl) (by kernel_rfl) (by kernel_rfl) (by kernel_rfl) ?hQ212009 ?hy212009 (by assumption) ?rest212009
  case hi212009 => (simp only [List.getElem?_toArray, List.getElem?_cons_succ, List.getElem?_cons_zero]; exact rfl)
  case hQ212009 => exact fun _ _ _ h => h
  case hy212009 => (refine Or.inl ⟨by kernel_rfl, ?_⟩; intro w hSw; (try dsimp only at hSw); go_simp; try (with_reducible rfl))
  try simp only [Act.put, List.setIfInBounds_toArray, List.set_cons_zero, List.set_cons_succ]
  refine wpP_take (i := 9) (oi := ?oi212010) (v := ?v212010) ?hi212010 (by kernel_rfl) (by kernel_rfl) (by kernel_rfl) (by kernel_rfl) ?hQ212010 ?hy212010 (by assumption) ?rest212010
  case hi212010 => (simp only [List.getElem?_toArray, List.getElem?_cons_succ, List.getElem?_cons_zero]; exact rfl)
  case hQ212010 => exact fun _ _ _ h => h
  case hy212010 => (refine Or.inl ⟨by kernel_rfl, ?_⟩; intro w hSw; (try dsimp only at hSw); go_simp; try (with_reducible rfl))
  try simp only [Act.put, List.setIfInBounds_toArray, List.set_cons_zero, List.set_cons_succ]
  refine wpP_ready (rs := [10]) (by kernel_rfl) (by simp) ?_
  refine AllP.last (o := ?o212011) ?ho212011 (by kernel_rfl) (fun K hK => ?_) AllP.nil
  case ho212011 => (simp only [List.getElem?_toArray, List.getElem?_cons_succ, List.getElem?_cons_zero]; exact rfl)
  go_simp
  refine hK.out _ _ ?_
  clear hK K
  try simp only [Act.put, List.setIfInBounds_toArray, List.set_cons_zero, List.set_cons_succ]
  refine wpP_done (by kernel_rfl) ?_ _
  rw [show bits BinOp.xor IntKind.u8 ((gb m (i / 8) : Nat) : Int) (2 ^ q) = ((gb m (i / 8) ^^^ 2 ^ q : Nat) : Int) from bits_xor _ q (gb_lt _ _) (by omega)]
  have hrow2 := blk_set HR.out (i / 8) (.int .u8 ((gb m (i / 8) ^^^ 2 ^ q : Nat) : Int))
  rw [bvs_set _ _ _ (xor_lt _ q (gb_lt _ _) (by omega)), ← hq] at hrow2
  have hB2 : Below w.heap.size w (W1.setCell ⟨w.heap.size, i / 8, none⟩ (.int .u8 ((gb m (i / 8) ^^^ 2 ^ (i % 8) : Nat) : Int))).drew := (below_set hB1 (Nat.le_refl _)).drew
  rw [← hq]
  generalize (W1.setCell ⟨w.heap.size, i / 8, none⟩ (.int .u8 ((gb m (i / 8) ^^^ 2 ^ (i % 8) : Nat) : Int))) = W2 at *
  have hst := str_of_u8 W2.drew w.heap.size 0 m.length m.length (turn m i) (by simp) (fun j hj => by
    rw [Nat.zero_add, show W2.drew.cell? ⟨w.heap.size, j, none⟩ = W2.cell? ⟨w.heap.size, j, none⟩ from rfl, cell_at hrow2]
    exact bvs_get _ _ (by simpa using hj))
  clear hrow2
  go_wp2
  go_ret
  exact ⟨rfl, hB2⟩

theorem turn_split (m : Blk) (i : Nat) (h : i / 8 < m.length) : m.take (i / 8) ++ [UInt8.ofNat (gb m (i / 8) ^^^ 2 ^ (i % 8))] ++ m.drop (i / 8 + 1) = turn m i := by
  rw [turn, List.set_eq_take_append_cons_drop, if_pos h, List.append_assoc]
  rfl
set_option maxHeartbeats 2000000 in
theorem rturn_ok (m : Blk) (i : Nat) (w : World) (hm : m.length = 128) (h : i < 1024) :
    Calls Try.prog 118 #[.string (mk m), .int .i64 i] w fun e w' => e = .returned (.string (mk (turn m i))) ∧ Below w.heap.size w w' := by
  have hHT := Lib.hid (turn_split m i (by omega))
  have h1 : (0 : Int) ≤ (i : Int) / 8 := by omega
  have h2 : (i : Int) / 8 < (m.length : Nat) := by omega
  have h2' : ¬ ((m.length : Int) < (i : Int) / 8) := by omega
  have h3' : ¬ ((m.length : Int) < (i : Int) / 8 + 1) := by omega
  have h3'' : (0 : Int) ≤ (i : Int) / 8 + 1 := by omega
  have hk : i / 8 < m.length := by omega
  have hw8 : IntKind.i64.wrap ((i : Int) / 8) = (i : Int) / 8 := by simp [IntKind.wrap, IntKind.bits, IntKind.signed]; omega
  have hw8' : IntKind.i64.wrap ((i : Int) / 8 + 1) = (i : Int) / 8 + 1 := by simp [IntKind.wrap, IntKind.bits, IntKind.signed]; omega
  have htn : ((i : Int) / 8).toNat = i / 8 := by omega
  have htn' : ((i : Int) / 8 + 1).toNat = i / 8 + 1 := by omega
  obtain ⟨q, hq⟩ : ∃ q : Nat, i % 8 = q := ⟨_, rfl⟩
  have hsm : (i : Int).tmod 8 = (q : Int) := by rw [Int.tmod_eq_emod_of_nonneg (by omega)]; omega
  have hq8 : (q : Int) ≤ 8 := by omega
  have hwq : IntKind.i64.wrap (q : Int) = (q : Int) := by simp [IntKind.wrap, IntKind.bits, IntKind.signed]; omega
  have hwp : IntKind.u8.wrap (2 ^ q) = ((2 ^ q : Nat) : Int) := wrap_bit q (by omega)
  have hbx : bits BinOp.xor IntKind.u8 ((gb m (i / 8) : Nat) : Int) (2 ^ q) = ((gb m (i / 8) ^^^ 2 ^ q : Nat) : Int) := bits_xor _ q (gb_lt _ _) (by omega)
  obtain ⟨cb, hcb⟩ : ∃ cb : UInt8, UInt8.ofNat (gb m (i / 8) ^^^ 2 ^ (i % 8)) = cb := ⟨_, rfl⟩
  have hcn : ((gb m (i / 8) ^^^ 2 ^ q : Nat) : Int) = ((gb [cb] 0 : Nat) : Int) := by
    rw [← hcb, hq]
    have := xor_lt _ q (gb_lt m (i / 8)) (by omega)
    rw [show gb [UInt8.ofNat (gb m (i / 8) ^^^ 2 ^ q)] 0 = (UInt8.ofNat (gb m (i / 8) ^^^ 2 ^ q)).toNat from rfl, UInt8.toNat_ofNat', Nat.mod_eq_of_lt this]
  rw [hcb] at hHT
  have hst := str_of_u8 (w.alloc (.cells #[.int .u8 ((gb m (i / 8) ^^^ 2 ^ q : Nat) : Int)] 5)).drew w.heap.size 0 1 1 [cb] rfl (fun j hj => by
    obtain rfl : j = 0 := by omega
    rw [show ((w.alloc (.cells #[.int .u8 ((gb m (i / 8) ^^^ 2 ^ q : Nat) : Int)] 5)).drew).cell? ⟨w.heap.size, 0 + 0, none⟩ = _ from cell_at (blk_new w _) 0, hcn]
    rfl)
  clear hcn hcb
  have hml : m.length ≤ 1024 := by omega
  have htk : List.take (m.length - (i / 8 + 1)) (List.drop (i / 8 + 1) m) = List.drop (i / 8 + 1) m := List.take_of_length_le (by simp)
  have hmin : min (i / 8) m.length = i / 8 := by omega
  have hc1 : ¬ (9223372036854775807 < i / 8 + 1) := by omega
  have hc2 : ¬ (9223372036854775807 < i / 8 + 1 + (m.length - (i / 8 + 1))) := by omega
  have HQ := Lib.hid hq
  have HM := Lib.hid hm
  clear hq hm
  go_enter Try.func118, Try.ntmps118
  go_wp2
  refine region_P (fun _ => True) [] (by kernel_rfl) ?_ (fun hHeld => ?_)
  · exact trivial
  refine wpP_take (i := 0) (oi := ?oi212012) (v := ?v212012) ?hi212012 (by kernel_rfl) (by kernel_rfl) (by kernel_rfl) (by kernel_rfl) ?hQ212012 ?hy212012 (by assumption) ?rest212012
  case hi212012 => (simp only [List.getElem?_toArray, List.getElem?_cons_succ, List.getElem?_cons_zero]; exact rfl)
  case hQ212012 => exact fun _ _ _ h => h
  case hy212012 => (refine Or.inl ⟨by kernel_rfl, ?_⟩; intro w hSw; (try dsimp only at hSw); go_simp; try (with_reducible rfl))
  try simp only [Act.put, List.setIfInBounds_toArray, List.set_cons_zero, List.set_cons_succ]
  refine wpP_take (i := 1) (oi := ?oi212013) (v := ?v212013) ?hi212013 (by kernel_rfl) (by kernel_rfl) (by kernel_rfl) (by kernel_rfl) ?hQ212013 ?hy212013 (by assumption) ?rest212013
  case hi212013 => (simp only [List.getElem?_toArray, List.getElem?_cons_succ, List.getElem?_cons_zero]; exact rfl)
  case hQ212013 => exact fun _ _ _ h => h
  case hy212013 => (refine Or.inl ⟨by kernel_rfl, ?_⟩; intro w hSw; (try dsimp only at hSw); go_simp; try (with_reducible rfl))
  try simp only [Act.put, List.setIfInBounds_toArray, List.set_cons_zero, List.set_cons_succ]
  refine wpP_take (i := 2) (oi := ?oi212014) (v := ?v212014) ?hi212014 (by kernel_rfl) (by kernel_rfl) (by kernel_rfl) (by kernel_rfl) ?hQ212014 ?hy212014 (by assumption) ?rest212014
  case hi212014 => (simp only [List.getElem?_toArray, List.getElem?_cons_succ, List.getElem?_cons_zero]; exact rfl)
  case hQ212014 => exact fun _ _ _ h => h
  case hy212014 => (refine Or.inl ⟨by kernel_rfl, ?_⟩; intro w hSw; (try dsimp only at hSw); go_simp; try (with_reducible rfl))
  try simp only [Act.put, List.setIfInBounds_toArray, List.set_cons_zero, List.set_cons_succ]
  refine wpP_take (i := 3) (oi := ?oi212015) (v := ?v212015) ?hi212015 (by kernel_rfl) (by kernel_rfl) (by kernel_rfl) (by kernel_rfl) ?hQ212015 ?hy212015 (by assumption) ?rest212015
  case hi212015 => (simp only [List.getElem?_toArray, List.getElem?_cons_succ, List.getElem?_cons_zero]; exact rfl)
  case hQ212015 => exact fun _ _ _ h => h
  case hy212015 => (refine Or.inl ⟨by kernel_rfl, ?_⟩; intro w hSw; (try dsimp only at hSw); go_simp; try (with_reducible rfl))
  try simp only [Act.put, List.setIfInBounds_toArray, List.set_cons_zero, List.set_cons_succ]
  refine wpP_take (i := 4) (oi := ?oi212016) (v := ?v212016) ?hi212016 (by kernel_rfl) (by kernel_rfl) (by kernel_rfl) (by kernel_rfl) ?hQ212016 ?hy212016 (by assumption) ?rest212016
  case hi212016 => (simp only [List.getElem?_toArray, List.getElem?_cons_succ, List.getElem?_cons_zero]; exact rfl)
  case hQ212016 => exact fun _ _ _ h => h
  case hy212016 => (refine Or.inl ⟨by kernel_rfl, ?_⟩; intro w hSw; (try dsimp only at hSw); go_simp; try (with_reducible rfl))
  try simp only [Act.put, List.setIfInBounds_toArray, List.set_cons_zero, List.set_cons_succ]
  refine wpP_take (i := 5) (oi := ?oi212017) (v := ?v212017) ?hi212017 (by kernel_rfl) (by kernel_rfl) (by kernel_rfl) (by kernel_rfl) ?hQ212017 ?hy212017 (by assumption) ?rest212017
  case hi212017 => (simp only [List.getElem?_toArray, List.getElem?_cons_succ, List.getElem?_cons_zero]; exact rfl)
  case hQ212017 => exact fun _ _ _ h => h
  case hy212017 => (refine Or.inl ⟨by kernel_rfl, ?_⟩; intro w hSw; (try dsimp only at hSw); go_simp; try (with_reducible rfl))
  try simp only [Act.put, List.setIfInBounds_toArray, List.set_cons_zero, List.set_cons_succ]
  refine wpP_take (i := 6) (oi := ?oi212018) (v := ?v212018) ?hi212018 (by kernel_rfl) (by kernel_rfl) (by kernel_rfl) (by kernel_rfl) ?hQ212018 ?hy212018 (by assumption) ?rest212018
  case hi212018 => (simp only [List.getElem?_toArray, List.getElem?_cons_succ, List.getElem?_cons_zero]; exact rfl)
  case hQ212018 => exact fun _ _ _ h => h
  case hy212018 => (refine Or.inl ⟨by kernel_rfl, ?_⟩; intro w hSw; (try dsimp only at hSw); go_simp; try (with_reducible rfl))
  try simp only [Act.put, List.setIfInBounds_toArray, List.set_cons_zero, List.set_cons_succ]
  refine wpP_take (i := 7) (oi := ?oi212019) (v := ?v212019) ?hi212019 (by kernel_rfl) (by kernel_rfl) (by kernel_rfl) (by kernel_rfl) ?hQ212019 ?hy212019 (by assumption) ?rest212019
  case hi212019 => (simp only [List.getElem?_toArray, List.getElem?_cons_succ, List.getElem?_cons_zero]; exact rfl)
  case hQ212019 => exact fun _ _ _ h => h
  case hy212019 => (refine Or.inl ⟨by kernel_rfl, ?_⟩; intro w hSw; (try dsimp only at hSw); go_simp; try (with_reducible rfl))
  try simp only [Act.put, List.setIfInBounds_toArray, List.set_cons_zero, List.set_cons_succ]
  refine wpP_take (i := 8) (oi := ?oi212020) (v := ?v212020) ?hi212020 (by kernel_rfl) (by kernel_rfl) (by kernel_rfl) (by kernel_rfl) ?hQ212020 ?hy212020 (by assumption) ?rest212020
  case hi212020 => (simp only [List.getElem?_toArray, List.getElem?_cons_succ, List.getElem?_cons_zero]; exact rfl)
  case hQ212020 => exact fun _ _ _ h => h
  case hy212020 => (refine Or.inl ⟨by kernel_rfl, ?_⟩; intro w hSw; (try dsimp only at hSw); go_simp; try (with_reducible rfl))
  try simp only [Act.put, List.setIfInBounds_toArray, List.set_cons_zero, List.set_cons_succ]
  refine wpP_take (i := 9) (oi := ?oi212021) (v := ?v212021) ?hi212021 (by kernel_rfl) (by kernel_rfl) (by kernel_rfl) (by kernel_rfl) ?hQ212021 ?hy212021 (by assumption) ?rest212021
  case hi212021 => (simp only [List.getElem?_toArray, List.getElem?_cons_succ, List.getElem?_cons_zero]; exact rfl)
  case hQ212021 => exact fun _ _ _ h => h
  case hy212021 => (refine Or.inl ⟨by kernel_rfl, ?_⟩; intro w hSw; (try dsimp only at hSw); go_simp; try (with_reducible rfl))
  try simp only [Act.put, List.setIfInBounds_toArray, List.set_cons_zero, List.set_cons_succ]
  refine wpP_take (i := 10) (oi := ?oi212022) (v := ?v212022) ?hi212022 (by kernel_rfl) (by kernel_rfl) (by kernel_rfl) (by kernel_rfl) ?hQ212022 ?hy212022 (by assumption) ?rest212022
  case hi212022 => (simp only [List.getElem?_toArray, List.getElem?_cons_succ, List.getElem?_cons_zero]; exact rfl)
  case hQ212022 => exact fun _ _ _ h => h
  case hy212022 => (refine Or.inl ⟨by kernel_rfl, ?_⟩; intro w hSw; (try dsimp only at hSw); go_simp; try (with_reducible rfl))
  try simp only [Act.put, List.setIfInBounds_toArray, List.set_cons_zero, List.set_cons_succ]
  refine wpP_take (i := 11) (oi := ?oi212023) (v := ?v212023) ?hi212023 (by kernel_rfl) (by kernel_rfl) (by kernel_rfl) (by kernel_rfl) ?hQ212023 ?hy212023 (by assumption) ?rest212023
  case hi212023 => (simp only [List.getElem?_toArray, List.getElem?_cons_succ, List.getElem?_cons_zero]; exact rfl)
  case hQ212023 => exact fun _ _ _ h => h
  case hy212023 => (refine Or.inl ⟨by kernel_rfl, ?_⟩; intro w hSw; (try dsimp only at hSw); go_simp; try (with_reducible rfl))
  try simp only [Act.put, List.setIfInBounds_toArray, List.set_cons_zero, List.set_cons_succ]
  refine wpP_take (i := 15) (oi := ?oi212024) (v := ?v212024) ?hi212024 (by kernel_rfl) (by kernel_rfl) (by kernel_rfl) (by kernel_rfl) ?hQ212024 ?hy212024 (by assumption) ?rest212024
  case hi212024 => (simp only [List.getElem?_toArray, List.getElem?_cons_succ, List.getElem?_cons_zero]; exact rfl)
  case hQ212024 => exact fun _ _ _ h => h
  case hy212024 => (refine Or.inl ⟨by kernel_rfl, ?_⟩; intro w hSw; (try dsimp only at hSw); go_simp; try (with_reducible rfl))
  try simp only [Act.put, List.setIfInBounds_toArray, List.set_cons_zero, List.set_cons_succ]
  refine wpP_take (i := 16) (oi := ?oi212025) (v := ?v212025) ?hi212025 (by kernel_rfl) (by kernel_rfl) (by kernel_rfl) (by kernel_rfl) ?hQ212025 ?hy212025 (by assumption) ?rest212025
  case hi212025 => (simp only [List.getElem?_toArray, List.getElem?_cons_succ, List.getElem?_cons_zero]; exact rfl)
  case hQ212025 => exact fun _ _ _ h => h
  case hy212025 => (refine Or.inl ⟨by kernel_rfl, ?_⟩; intro w hSw; (try dsimp only at hSw); go_simp; try (with_reducible rfl))
  try simp only [Act.put, List.setIfInBounds_toArray, List.set_cons_zero, List.set_cons_succ]
  refine wpP_take (i := 17) (oi := ?oi212026) (v := ?v212026) ?hi212026 (by kernel_rfl) (by kernel_rfl) (by kernel_rfl) (by kernel_rfl) ?hQ212026 ?hy212026 (by assumption) ?rest212026
  case hi212026 => (simp only [List.getElem?_toArray, List.getElem?_cons_succ, List.getElem?_cons_zero]; exact rfl)
  case hQ212026 => exact fun _ _ _ h => h
  case hy212026 => (refine Or.inl ⟨by kernel_rfl, ?_⟩; intro w hSw; (try dsimp only at hSw); go_simp; try (with_reducible rfl))
  try simp only [Act.put, List.setIfInBounds_toArray, List.set_cons_zero, List.set_cons_succ]
  refine wpP_take (i := 18) (oi := ?oi212027) (v := ?v212027) ?hi212027 (by kernel_rfl) (by kernel_rfl) (by kernel_rfl) (by kernel_rfl) ?hQ212027 ?hy212027 (by assumption) ?rest212027
  case hi212027 => (simp only [List.getElem?_toArray, List.getElem?_cons_succ, List.getElem?_cons_zero]; exact rfl)
  case hQ212027 => exact fun _ _ _ h => h
  case hy212027 => (refine Or.inl ⟨by kernel_rfl, ?_⟩; intro w hSw; (try dsimp only at hSw); go_simp; try (with_reducible rfl))
  try simp only [Act.put, List.setIfInBounds_toArray, List.set_cons_zero, List.set_cons_succ]
  refine wpP_take (i := 19) (oi := ?oi212028) (v := ?v212028) ?hi212028 (by kernel_rfl) (by kernel_rfl) (by kernel_rfl) (by kernel_rfl) ?hQ212028 ?hy212028 (by assumption) ?rest212028
  case hi212028 => (simp only [List.getElem?_toArray, List.getElem?_cons_succ, List.getElem?_cons_zero]; exact rfl)
  case hQ212028 => exact fun _ _ _ h => h
  case hy212028 => (refine Or.inl ⟨by kernel_rfl, ?_⟩; intro w hSw; (try dsimp only at hSw); go_simp; try (with_reducible rfl))
  try simp only [Act.put, List.setIfInBounds_toArray, List.set_cons_zero, List.set_cons_succ]
  refine wpP_ready (rs := [12]) (by kernel_rfl) (by simp) ?_
  refine AllP.cons (o := ?o212029) ?ho212029 (fun K hK => ?_) AllP.nil
  case ho212029 => (simp only [List.getElem?_toArray, List.getElem?_cons_succ, List.getElem?_cons_zero]; exact rfl)
  go_simp
  refine hK.out _ _ ?_ (fun hHeld => ?_)
  · exact trivial
  clear hK K
  try simp only [Act.put, List.setIfInBounds_toArray, List.set_cons_zero, List.set_cons_succ]
  refine wpP_ready (rs := [13]) (by kernel_rfl) (by simp) ?_
  refine AllP.cons (o := ?o212030) ?ho212030 (fun K hK => ?_) AllP.nil
  case ho212030 => (simp only [List.getElem?_toArray, List.getElem?_cons_succ, List.getElem?_cons_zero]; exact rfl)
  go_simp
  refine hK.out _ _ ?_ (fun hHeld => ?_)
  · exact trivial
  clear hK K
  try simp only [Act.put, List.setIfInBounds_toArray, List.set_cons_zero, List.set_cons_succ]
  refine wpP_take (i := 14) (oi := ?oi212031) (v := ?v212031) ?hi212031 (by kernel_rfl) (by kernel_rfl) (by kernel_rfl) (by kernel_rfl) ?hQ212031 ?hy212031 (by assumption) ?rest212031
  case hi212031 => (simp only [List.getElem?_toArray, List.getElem?_cons_succ, List.getElem?_cons_zero]; exact rfl)
  case hQ212031 => exact fun _ _ _ h => h
  case hy212031 => (refine Or.inl ⟨by kernel_rfl, ?_⟩; intro w hSw; (try dsimp only at hSw); go_simp; try (with_reducible rfl))
  try simp only [Act.put, List.setIfInBounds_toArray, List.set_cons_zero, List.set_cons_succ]
  refine wpP_take (i := 20) (oi := ?oi212032) (v := ?v212032) ?hi212032 (by kernel_rfl) (by kernel_rfl) (by kernel_rfl) (by kernel_rfl) ?hQ212032 ?hy212032 (by assumption) ?rest212032
  case hi212032 => (simp only [List.getElem?_toArray, List.getElem?_cons_succ, List.getElem?_cons_zero]; exact rfl)
  case hQ212032 => exact fun _ _ _ h => h
  case hy212032 => (refine Or.inl ⟨by kernel_rfl, ?_⟩; intro w hSw; (try dsimp only at hSw); go_simp; try (with_reducible rfl))
  try simp only [Act.put, List.setIfInBounds_toArray, List.set_cons_zero, List.set_cons_succ]
  refine wpP_take (i := 21) (oi := ?oi212033) (v := ?v212033) ?hi212033 (by kernel_rfl) (by kernel_rfl) (by kernel_rfl) (by kernel_rfl) ?hQ212033 ?hy212033 (by assumption) ?rest212033
  case hi212033 => (simp only [List.getElem?_toArray, List.getElem?_cons_succ, List.getElem?_cons_zero]; exact rfl)
  case hQ212033 => exact fun _ _ _ h => h
  case hy212033 => (refine Or.inl ⟨by kernel_rfl, ?_⟩; intro w hSw; (try dsimp only at hSw); go_simp; try (with_reducible rfl))
  try simp only [Act.put, List.setIfInBounds_toArray, List.set_cons_zero, List.set_cons_succ]
  refine wpP_done (by kernel_rfl) ?_ _
  go_wp2
  go_ret
  refine ⟨?_, ((Below.refl _ _).alloc (Nat.le_refl _) _).drew⟩
  have := hHT.out
  rw [List.append_assoc] at this
  exact ret_str this
end Go.Proofs.Ytacdohlhalnioaa

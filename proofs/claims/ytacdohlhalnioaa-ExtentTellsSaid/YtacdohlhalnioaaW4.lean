/- Contracts: an open file is closed; bytes are written. -/
import Derived.Test.YtacdohlhalnioaaW3
import Derived.Test.YtacdohlhalnioaaE3
set_option linter.unusedVariables false
set_option maxRecDepth 20000
namespace Go.Proofs.Ytacdohlhalnioaa
open Go.RowKit
attribute [local go_sem] Oper.semAt_some

set_option maxHeartbeats 4000000 in
theorem close_ok (F g c L I d n : Nat) (v : Vol) (x : Ino) (w : World) (hf : FileAt w F g c L I d n v x) (hv : okV v = true) (h1 : 1 ≤ n) (h2 : n ≤ inosV v) (hx : fitI x) :
    Calls Try.prog 79 #[.pointer (some ⟨F, 0, none⟩)] w fun e w' => ∃ g' c', e = .returned (.tuple #[.slice (some ⟨g', 0, none⟩) L c', .int .i64 0]) ∧ VS w' g' (putV v n x) ∧ w.heap.size ≤ g' ∧ Below w.heap.size w w' := by
  obtain rfl := hf.len
  have hhi := (okV_iff.1 hv).hi
  have c0 : w.cell? ⟨F, 0, none⟩ = some (.slice (some ⟨g, 0, none⟩) v.length c) := by rw [cell_at hf.blk]; rfl
  have c7 : w.cell? ⟨F, 7, none⟩ = some (.int .i64 n) := by rw [cell_at hf.blk]; rfl
  have c8 : w.cell? ⟨F, 8, none⟩ = some (.int .i64 ((x.kind : Nat) : Int)) := by rw [cell_at hf.blk]; rfl
  have c9 : w.cell? ⟨F, 9, none⟩ = some (.int .i64 ((x.links : Nat) : Int)) := by rw [cell_at hf.blk]; rfl
  have c10 : w.cell? ⟨F, 10, none⟩ = some (.int .i64 ((x.owner : Nat) : Int)) := by rw [cell_at hf.blk]; rfl
  have c11 : w.cell? ⟨F, 11, none⟩ = some (.int .i64 ((x.size : Nat) : Int)) := by rw [cell_at hf.blk]; rfl
  have c12 : w.cell? ⟨F, 12, none⟩ = some (.int .i64 ((x.d0 : Nat) : Int)) := by rw [cell_at hf.blk]; rfl
  have c13 : w.cell? ⟨F, 13, none⟩ = some (.int .i64 ((x.d1 : Nat) : Int)) := by rw [cell_at hf.blk]; rfl
  have c14 : w.cell? ⟨F, 14, none⟩ = some (.int .i64 ((x.d2 : Nat) : Int)) := by rw [cell_at hf.blk]; rfl
  have c15 : w.cell? ⟨F, 15, none⟩ = some (.int .i64 ((x.d3 : Nat) : Int)) := by rw [cell_at hf.blk]; rfl
  have c16 : w.cell? ⟨F, 16, none⟩ = some (.int .i64 ((x.d4 : Nat) : Int)) := by rw [cell_at hf.blk]; rfl
  have c17 : w.cell? ⟨F, 17, none⟩ = some (.int .i64 ((x.d5 : Nat) : Int)) := by rw [cell_at hf.blk]; rfl
  have c18 : w.cell? ⟨F, 18, none⟩ = some (.int .i64 ((x.ind : Nat) : Int)) := by rw [cell_at hf.blk]; rfl
  have c19 : w.cell? ⟨F, 19, none⟩ = some (.int .i64 ((x.ext : Nat) : Int)) := by rw [cell_at hf.blk]; rfl
  have hput := Lib.hid (fun w A c hr => iput_ok A c v n x w hr hv h1 h2 hx)
  have HR := Lib.hid (hf.vol.rs (by omega))
  clear hf hv hx
  go_enter Try.func79, Try.ntmps79
  go_wp2
  refine region_P (fun w' => w'.cell? ⟨F, 0, none⟩ = some (.slice (some ⟨g, 0, none⟩) v.length c) ∧ w'.cell? ⟨F, 7, none⟩ = some (.int .i64 n) ∧ w'.cell? ⟨F, 8, none⟩ = some (.int .i64 ((x.kind : Nat) : Int)) ∧ w'.cell? ⟨F, 9, none⟩ = some (.int .i64 ((x.links : Nat) : Int)) ∧ w'.cell? ⟨F, 10, none⟩ = some (.int .i64 ((x.owner : Nat) : Int)) ∧ w'.cell? ⟨F, 11, none⟩ = some (.int .i64 ((x.size : Nat) : Int)) ∧ w'.cell? ⟨F, 12, none⟩ = some (.int .i64 ((x.d0 : Nat) : Int)) ∧ w'.cell? ⟨F, 13, none⟩ = some (.int .i64 ((x.d1 : Nat) : Int)) ∧ w'.cell? ⟨F, 14, none⟩ = some (.int .i64 ((x.d2 : Nat) : Int)) ∧ w'.cell? ⟨F, 15, none⟩ = some (.int .i64 ((x.d3 : Nat) : Int)) ∧ w'.cell? ⟨F, 16, none⟩ = some (.int .i64 ((x.d4 : Nat) : Int)) ∧ w'.cell? ⟨F, 17, none⟩ = some (.int .i64 ((x.d5 : Nat) : Int)) ∧ w'.cell? ⟨F, 18, none⟩ = some (.int .i64 ((x.ind : Nat) : Int)) ∧ w'.cell? ⟨F, 19, none⟩ = some (.int .i64 ((x.ext : Nat) : Int))) [] (by kernel_rfl) ?_ (fun hHeld => ?_)
  · exact ⟨c0, c7, c8, c9, c10, c11, c12, c13, c14, c15, c16, c17, c18, c19⟩
  refine wpP_take (i := 0) (oi := ?oi484001) (v := ?v484001) ?hi484001 (by kernel_rfl) (by kernel_rfl) (by kernel_rfl) (by kernel_rfl) ?hQ484001 ?hy484001 (by assumption) ?rest484001
  case hi484001 => (simp only [List.getElem?_toArray, List.getElem?_cons_succ, List.getElem?_cons_zero]; exact rfl)
  case hQ484001 => exact fun _ _ _ h => h
  case hy484001 => (refine Or.inl ⟨by kernel_rfl, ?_⟩; intro w hSw; (try dsimp only at hSw); go_simp; try (with_reducible rfl))
  try simp only [Act.put, List.setIfInBounds_toArray, List.set_cons_zero, List.set_cons_succ]
  refine wpP_take (i := 1) (oi := ?oi484002) (v := ?v484002) ?hi484002 (by kernel_rfl) (by kernel_rfl) (by kernel_rfl) (by kernel_rfl) ?hQ484002 ?hy484002 (by assumption) ?rest484002
  case hi484002 => (simp only [List.getElem?_toArray, List.getElem?_cons_succ, List.getElem?_cons_zero]; exact rfl)
  case hQ484002 => exact fun _ _ _ h => h
  case hy484002 => (refine Or.inl ⟨by kernel_rfl, ?_⟩; intro w hSw; (try dsimp only at hSw); go_simp; try (with_reducible rfl))
  try simp only [Act.put, List.setIfInBounds_toArray, List.set_cons_zero, List.set_cons_succ]
  refine wpP_take (i := 2) (oi := ?oi484003) (v := ?v484003) ?hi484003 (by kernel_rfl) (by kernel_rfl) (by kernel_rfl) (by kernel_rfl) ?hQ484003 ?hy484003 (by assumption) ?rest484003
  case hi484003 => (simp only [List.getElem?_toArray, List.getElem?_cons_succ, List.getElem?_cons_zero]; exact rfl)
  case hQ484003 => exact fun _ _ _ h => h
  case hy484003 => (refine Or.inl ⟨by kernel_rfl, ?_⟩; intro w hSw; (try dsimp only at hSw); go_simp; try (with_reducible rfl))
  try simp only [Act.put, List.setIfInBounds_toArray, List.set_cons_zero, List.set_cons_succ]
  refine wpP_take (i := 3) (oi := ?oi484004) (v := ?v484004) ?hi484004 (by kernel_rfl) (by kernel_rfl) (by kernel_rfl) (by kernel_rfl) ?hQ484004 ?hy484004 (by assumption) ?rest484004
  case hi484004 => (simp only [List.getElem?_toArray, List.getElem?_cons_succ, List.getElem?_cons_zero]; exact rfl)
  case hQ484004 => exact fun _ _ _ h => h
  case hy484004 => (refine Or.inl ⟨by kernel_rfl, ?_⟩; intro w hSw; (try dsimp only at hSw); go_simp; try (with_reducible rfl))
  try simp only [Act.put, List.setIfInBounds_toArray, List.set_cons_zero, List.set_cons_succ]
  refine wpP_take (i := 4) (oi := ?oi484005) (v := ?v484005) ?hi484005 (by kernel_rfl) (by kernel_rfl) (by kernel_rfl) (by kernel_rfl) ?hQ484005 ?hy484005 (by assumption) ?rest484005
  case hi484005 => (simp only [List.getElem?_toArray, List.getElem?_cons_succ, List.getElem?_cons_zero]; exact rfl)
  case hQ484005 => exact fun _ _ _ h => h
  case hy484005 => (refine Or.inl ⟨by kernel_rfl, ?_⟩; intro w hSw; (try dsimp only at hSw); go_simp; try (with_reducible rfl))
  try simp only [Act.put, List.setIfInBounds_toArray, List.set_cons_zero, List.set_cons_succ]
  refine wpP_take (i := 5) (oi := ?oi484006) (v := ?v484006) ?hi484006 (by kernel_rfl) (by kernel_rfl) (by kernel_rfl) (by kernel_rfl) ?hQ484006 ?hy484006 (by assumption) ?rest484006
  case hi484006 => (simp only [List.getElem?_toArray, List.getElem?_cons_succ, List.getElem?_cons_zero]; exact rfl)
  case hQ484006 => exact fun _ _ _ h => h
  case hy484006 => (refine Or.inl ⟨by kernel_rfl, ?_⟩; intro w hSw; (try dsimp only at hSw); go_simp; try (with_reducible rfl))
  try simp only [Act.put, List.setIfInBounds_toArray, List.set_cons_zero, List.set_cons_succ]
  refine wpP_take (i := 6) (oi := ?oi484007) (v := ?v484007) ?hi484007 (by kernel_rfl) (by kernel_rfl) (by kernel_rfl) (by kernel_rfl) ?hQ484007 ?hy484007 (by assumption) ?rest484007
  case hi484007 => (simp only [List.getElem?_toArray, List.getElem?_cons_succ, List.getElem?_cons_zero]; exact rfl)
  case hQ484007 => exact fun _ _ _ h => h
  case hy484007 => (refine Or.inl ⟨by kernel_rfl, ?_⟩; intro w hSw; (try dsimp only at hSw); go_simp; try (with_reducible rfl))
  try simp only [Act.put, List.setIfInBounds_toArray, List.set_cons_zero, List.set_cons_succ]
  refine wpP_take (i := 7) (oi := ?oi484008) (v := ?v484008) ?hi484008 (by kernel_rfl) (by kernel_rfl) (by kernel_rfl) (by kernel_rfl) ?hQ484008 ?hy484008 (by assumption) ?rest484008
  case hi484008 => (simp only [List.getElem?_toArray, List.getElem?_cons_succ, List.getElem?_cons_zero]; exact rfl)
  case hQ484008 => exact fun _ _ _ h => h
  case hy484008 => (refine Or.inl ⟨by kernel_rfl, ?_⟩; intro w hSw; (try dsimp only at hSw); go_simp; try (with_reducible rfl))
  try simp only [Act.put, List.setIfInBounds_toArray, List.set_cons_zero, List.set_cons_succ]
  refine wpP_take (i := 8) (oi := ?oi484009) (v := ?v484009) ?hi484009 (by kernel_rfl) (by kernel_rfl) (by kernel_rfl) (by kernel_rfl) ?hQ484009 ?hy484009 (by assumption) ?rest484009
  case hi484009 => (simp only [List.getElem?_toArray, List.getElem?_cons_succ, List.getElem?_cons_zero]; exact rfl)
  case hQ484009 => exact fun _ _ _ h => h
  case hy484009 => (refine Or.inl ⟨by kernel_rfl, ?_⟩; intro w hSw; (try dsimp only at hSw); go_simp; try (with_reducible rfl))
  try simp only [Act.put, List.setIfInBounds_toArray, List.set_cons_zero, List.set_cons_succ]
  refine wpP_take (i := 9) (oi := ?oi484010) (v := ?v484010) ?hi484010 (by kernel_rfl) (by kernel_rfl) (by kernel_rfl) (by kernel_rfl) ?hQ484010 ?hy484010 (by assumption) ?rest484010
  case hi484010 => (simp only [List.getElem?_toArray, List.getElem?_cons_succ, List.getElem?_cons_zero]; exact rfl)
  case hQ484010 => exact fun _ _ _ h => h
  case hy484010 => (refine Or.inl ⟨by kernel_rfl, ?_⟩; intro w hSw; (try dsimp only at hSw); go_simp; try (with_reducible rfl))
  try simp only [Act.put, List.setIfInBounds_toArray, List.set_cons_zero, List.set_cons_succ]
  refine wpP_take (i := 10) (oi := ?oi484011) (v := ?v484011) ?hi484011 (by kernel_rfl) (by kernel_rfl) (by kernel_rfl) (by kernel_rfl) ?hQ484011 ?hy484011 (by assumption) ?rest484011
  case hi484011 => (simp only [List.getElem?_toArray, List.getElem?_cons_succ, List.getElem?_cons_zero]; exact rfl)
  case hQ484011 => exact fun _ _ _ h => h
  case hy484011 => (refine Or.inl ⟨by kernel_rfl, ?_⟩; intro w hSw; (try dsimp only at hSw); go_simp; try (with_reducible rfl))
  try simp only [Act.put, List.setIfInBounds_toArray, List.set_cons_zero, List.set_cons_succ]
  refine wpP_take (i := 11) (oi := ?oi484012) (v := ?v484012) ?hi484012 (by kernel_rfl) (by kernel_rfl) (by kernel_rfl) (by kernel_rfl) ?hQ484012 ?hy484012 (by assumption) ?rest484012
  case hi484012 => (simp only [List.getElem?_toArray, List.getElem?_cons_succ, List.getElem?_cons_zero]; exact rfl)
  case hQ484012 => exact fun _ _ _ h => h
  case hy484012 => (refine Or.inl ⟨by kernel_rfl, ?_⟩; intro w hSw; (try dsimp only at hSw); go_simp; try (with_reducible rfl))
  try simp only [Act.put, List.setIfInBounds_toArray, List.set_cons_zero, List.set_cons_succ]
  refine wpP_ready (rs := [12]) (by kernel_rfl) (by simp) ?_
  refine AllP.cons (o := ?o484013) ?ho484013 (fun K hK => ?_) AllP.nil
  case ho484013 => (simp only [List.getElem?_toArray, List.getElem?_cons_succ, List.getElem?_cons_zero]; exact rfl)
  go_simp
  go_at_call 77
  refine (hput.out _ _ _ (HR.out.below ((Below.refl _ _).drew))).mono ?_
  rintro e w4 ⟨g4, c4, rfl, hg4, hgs4, hb4⟩
  refine hK.out _ _ ?_ (fun hHeld => ?_)
  · exact ⟨cell_keep (hHeld.1) hb4, cell_keep (hHeld.2.1) hb4, cell_keep (hHeld.2.2.1) hb4, cell_keep (hHeld.2.2.2.1) hb4, cell_keep (hHeld.2.2.2.2.1) hb4, cell_keep (hHeld.2.2.2.2.2.1) hb4, cell_keep (hHeld.2.2.2.2.2.2.1) hb4, cell_keep (hHeld.2.2.2.2.2.2.2.1) hb4, cell_keep (hHeld.2.2.2.2.2.2.2.2.1) hb4, cell_keep (hHeld.2.2.2.2.2.2.2.2.2.1) hb4, cell_keep (hHeld.2.2.2.2.2.2.2.2.2.2.1) hb4, cell_keep (hHeld.2.2.2.2.2.2.2.2.2.2.2.1) hb4, cell_keep (hHeld.2.2.2.2.2.2.2.2.2.2.2.2.1) hb4, cell_keep (hHeld.2.2.2.2.2.2.2.2.2.2.2.2.2) hb4⟩
  clear hK K
  try simp only [Act.put, List.setIfInBounds_toArray, List.set_cons_zero, List.set_cons_succ]
  refine wpP_take (i := 13) (oi := ?oi484014) (v := ?v484014) ?hi484014 (by kernel_rfl) (by kernel_rfl) (by kernel_rfl) (by kernel_rfl) ?hQ484014 ?hy484014 (by assumption) ?rest484014
  case hi484014 => (simp only [List.getElem?_toArray, List.getElem?_cons_succ, List.getElem?_cons_zero]; exact rfl)
  case hQ484014 => exact fun _ _ _ h => h
  case hy484014 => (refine Or.inl ⟨by kernel_rfl, ?_⟩; intro w hSw; (try dsimp only at hSw); go_simp; try (with_reducible rfl))
  try simp only [Act.put, List.setIfInBounds_toArray, List.set_cons_zero, List.set_cons_succ]
  refine wpP_take (i := 14) (oi := ?oi484015) (v := ?v484015) ?hi484015 (by kernel_rfl) (by kernel_rfl) (by kernel_rfl) (by kernel_rfl) ?hQ484015 ?hy484015 (by assumption) ?rest484015
  case hi484015 => (simp only [List.getElem?_toArray, List.getElem?_cons_succ, List.getElem?_cons_zero]; exact rfl)
  case hQ484015 => exact fun _ _ _ h => h
  case hy484015 => (refine Or.inl ⟨by kernel_rfl, ?_⟩; intro w hSw; (try dsimp only at hSw); go_simp; try (with_reducible rfl))
  try simp only [Act.put, List.setIfInBounds_toArray, List.set_cons_zero, List.set_cons_succ]
  refine wpP_take (i := 15) (oi := ?oi484016) (v := ?v484016) ?hi484016 (by kernel_rfl) (by kernel_rfl) (by kernel_rfl) (by kernel_rfl) ?hQ484016 ?hy484016 (by assumption) ?rest484016
  case hi484016 => (simp only [List.getElem?_toArray, List.getElem?_cons_succ, List.getElem?_cons_zero]; exact rfl)
  case hQ484016 => exact fun _ _ _ h => h
  case hy484016 => (refine Or.inl ⟨by kernel_rfl, ?_⟩; intro w hSw; (try dsimp only at hSw); go_simp; try (with_reducible rfl))
  try simp only [Act.put, List.setIfInBounds_toArray, List.set_cons_zero, List.set_cons_succ]
  refine wpP_take (i := 16) (oi := ?oi484017) (v := ?v484017) ?hi484017 (by kernel_rfl) (by kernel_rfl) (by kernel_rfl) (by kernel_rfl) ?hQ484017 ?hy484017 (by assumption) ?rest484017
  case hi484017 => (simp only [List.getElem?_toArray, List.getElem?_cons_succ, List.getElem?_cons_zero]; exact rfl)
  case hQ484017 => exact fun _ _ _ h => h
  case hy484017 => (refine Or.inl ⟨by kernel_rfl, ?_⟩; intro w hSw; (try dsimp only at hSw); go_simp; try (with_reducible rfl))
  try simp only [Act.put, List.setIfInBounds_toArray, List.set_cons_zero, List.set_cons_succ]
  refine wpP_done (by kernel_rfl) ?_ _
  go_wp2
  go_ret2
  exact ⟨g4, c4, rfl, hg4, hgs4, below_und hb4⟩
end Go.Proofs.Ytacdohlhalnioaa

/- Contract: a file is opened. -/
import Derived.Test.YtacdohlhalnioaaE2
set_option linter.unusedVariables false
set_option maxRecDepth 20000
namespace Go.Proofs.Ytacdohlhalnioaa
open Go.RowKit
attribute [local go_sem] Oper.semAt_some

set_option maxHeartbeats 2000000 in
theorem open_ok (A : Option Addr) (c : Nat) (v : Vol) (n : Nat) (w : World) (hr : RS w A v) (hv : okV v = true) (h1 : 1 ≤ n) (h2 : n ≤ inosV v) :
    Calls Try.prog 51 #[.slice A v.length c, .int .i64 n] w fun e w' => ∃ F g c', e = .returned (.tuple #[.pointer (some ⟨F, 0, none⟩), .int .i64 0]) ∧ FileAt w' F g c' v.length (inosV v) (dataV v) n v (inoV v n) ∧ w.heap.size ≤ F ∧ w.heap.size ≤ g ∧ Below w.heap.size w w' := by
  have h0 : 0 < v.length := by have := (okV_iff.1 hv).lo; omega
  have hdd : (3 + ((inosV v : Nat) + 1 : Int) / 2) = ((dataV v : Nat) : Int) := by rw [dataV]; omega
  have HV := Lib.hid hv
  have HR := Lib.hid hr
  clear hv hr
  obtain ⟨d, hd⟩ : ∃ d, dataV v = d := ⟨_, rfl⟩
  rw [hd] at hdd ⊢
  generalize hI : inoV v n = x at *
  go_enter Try.func51, Try.ntmps51
  go_wp2_with (first
    | (go_at_call 32; refine (iget_ok _ _ _ n _ HR.out HV.out h1 h2).mono ?_; rw [hI]; rintro e w1 ⟨rfl, hb1⟩; have B1 := Lib.hid hb1; clear hb1)
    | (go_at_call 71; refine (of_ok _ _ _ _ (HR.out.below (B1.out.alloc B1.out.size _)) HV.out).mono ?_; rw [hdd]; rintro e w2 ⟨rfl, hb2⟩; have B2 := Lib.hid hb2; clear hb2))
  obtain ⟨G, hG⟩ : ∃ G, Obj.cells #[.int .i64 v.length, .int .i64 (inosV v), .int .i64 1, .int .i64 2, .int .i64 3, .int .i64 d] 66 = G := ⟨_, rfl⟩
  obtain ⟨X, hX⟩ : ∃ X, Obj.cells #[.int .i64 ((x.kind : Nat) : Int), .int .i64 ((x.links : Nat) : Int), .int .i64 ((x.owner : Nat) : Int), .int .i64 ((x.size : Nat) : Int), .int .i64 ((x.d0 : Nat) : Int), .int .i64 ((x.d1 : Nat) : Int), .int .i64 ((x.d2 : Nat) : Int), .int .i64 ((x.d3 : Nat) : Int), .int .i64 ((x.d4 : Nat) : Int), .int .i64 ((x.d5 : Nat) : Int), .int .i64 ((x.ind : Nat) : Int), .int .i64 ((x.ext : Nat) : Int)] 45 = X := ⟨_, rfl⟩
  rw [hX] at B2
  have k1 : w2.heap[w1.heap.size]? = some X := blk_keep (blk_new w1 X) B2.out
  have k1' := heap_alloc_lt w2 G X _ k1
  have k2 := blk_new w2 G
  have hB0 : Below w.heap.size w (w2.alloc G) := (below_keep (B1.out.alloc B1.out.size _) (Nat.le_refl _) B2.out).alloc (by have := B1.out.size; have := B2.out.size; simp at this; omega) _
  rw [hG]
  generalize w2.alloc G = W0 at *
  generalize w2.heap.size = gq at *
  generalize w1.heap.size = xq at *
  rw [← hX] at k1'
  rw [← hG] at k2
  obtain ⟨g0, g1, g2, g3, g4, g5⟩ := cells6 k2
  obtain ⟨q0, q1, q2, q3, q4, q5, q6, q7, q8, q9, q10, q11⟩ := cells12 k1'
  have K1 := Lib.hid k1'
  have K2 := Lib.hid k2
  have HB0 := Lib.hid hB0
  clear hB0 k1' k2 k1 hX hG B1 B2
  refine region_P (fun w' => w'.cell? ⟨gq, 0, none⟩ = some (.int .i64 v.length) ∧ w'.cell? ⟨gq, 1, none⟩ = some (.int .i64 (inosV v)) ∧ w'.cell? ⟨gq, 2, none⟩ = some (.int .i64 1) ∧ w'.cell? ⟨gq, 3, none⟩ = some (.int .i64 2) ∧ w'.cell? ⟨gq, 4, none⟩ = some (.int .i64 3) ∧ w'.cell? ⟨gq, 5, none⟩ = some (.int .i64 d) ∧ w'.cell? ⟨xq, 0, none⟩ = some (.int .i64 x.kind) ∧ w'.cell? ⟨xq, 1, none⟩ = some (.int .i64 x.links) ∧ w'.cell? ⟨xq, 2, none⟩ = some (.int .i64 x.owner) ∧ w'.cell? ⟨xq, 3, none⟩ = some (.int .i64 x.size) ∧ w'.cell? ⟨xq, 4, none⟩ = some (.int .i64 x.d0) ∧ w'.cell? ⟨xq, 5, none⟩ = some (.int .i64 x.d1) ∧ w'.cell? ⟨xq, 6, none⟩ = some (.int .i64 x.d2) ∧ w'.cell? ⟨xq, 7, none⟩ = some (.int .i64 x.d3) ∧ w'.cell? ⟨xq, 8, none⟩ = some (.int .i64 x.d4) ∧ w'.cell? ⟨xq, 9, none⟩ = some (.int .i64 x.d5) ∧ w'.cell? ⟨xq, 10, none⟩ = some (.int .i64 x.ind) ∧ w'.cell? ⟨xq, 11, none⟩ = some (.int .i64 x.ext)) [] (by kernel_rfl) ?_ (fun hHeld => ?_)
  · exact ⟨g0, g1, g2, g3, g4, g5, q0, q1, q2, q3, q4, q5, q6, q7, q8, q9, q10, q11⟩
  refine wpP_take (i := 0) (oi := ?oi357001) (v := ?v357001) ?hi357001 (by kernel_rfl) (by kernel_rfl) (by kernel_rfl) (by kernel_rfl) ?hQ357001 ?hy357001 (by assumption) ?rest357001
  case hi357001 => (simp only [List.getElem?_toArray, List.getElem?_cons_succ, List.getElem?_cons_zero]; exact rfl)
  case hQ357001 => exact fun _ _ _ h => h
  case hy357001 => (refine Or.inl ⟨by kernel_rfl, ?_⟩; intro w hSw; (try dsimp only at hSw); go_simp; try (with_reducible rfl))
  try simp only [Act.put, List.setIfInBounds_toArray, List.set_cons_zero, List.set_cons_succ]
  refine wpP_take (i := 2) (oi := ?oi357002) (v := ?v357002) ?hi357002 (by kernel_rfl) (by kernel_rfl) (by kernel_rfl) (by kernel_rfl) ?hQ357002 ?hy357002 (by assumption) ?rest357002
  case hi357002 => (simp only [List.getElem?_toArray, List.getElem?_cons_succ, List.getElem?_cons_zero]; exact rfl)
  case hQ357002 => exact fun _ _ _ h => h
  case hy357002 => (refine Or.inl ⟨by kernel_rfl, ?_⟩; intro w hSw; (try dsimp only at hSw); go_simp; try (with_reducible rfl))
  try simp only [Act.put, List.setIfInBounds_toArray, List.set_cons_zero, List.set_cons_succ]
  refine wpP_take (i := 3) (oi := ?oi357003) (v := ?v357003) ?hi357003 (by kernel_rfl) (by kernel_rfl) (by kernel_rfl) (by kernel_rfl) ?hQ357003 ?hy357003 (by assumption) ?rest357003
  case hi357003 => (simp only [List.getElem?_toArray, List.getElem?_cons_succ, List.getElem?_cons_zero]; exact rfl)
  case hQ357003 => exact fun _ _ _ h => h
  case hy357003 => (refine Or.inl ⟨by kernel_rfl, ?_⟩; intro w hSw; (try dsimp only at hSw); go_simp; try (with_reducible rfl))
  try simp only [Act.put, List.setIfInBounds_toArray, List.set_cons_zero, List.set_cons_succ]
  refine wpP_take (i := 4) (oi := ?oi357004) (v := ?v357004) ?hi357004 (by kernel_rfl) (by kernel_rfl) (by kernel_rfl) (by kernel_rfl) ?hQ357004 ?hy357004 (by assumption) ?rest357004
  case hi357004 => (simp only [List.getElem?_toArray, List.getElem?_cons_succ, List.getElem?_cons_zero]; exact rfl)
  case hQ357004 => exact fun _ _ _ h => h
  case hy357004 => (refine Or.inl ⟨by kernel_rfl, ?_⟩; intro w hSw; (try dsimp only at hSw); go_simp; try (with_reducible rfl))
  try simp only [Act.put, List.setIfInBounds_toArray, List.set_cons_zero, List.set_cons_succ]
  refine wpP_ready (rs := [1]) (by kernel_rfl) (by simp) ?_
  refine AllP.cons (o := ?o357005) ?ho357005 (fun K hK => ?_) AllP.nil
  case ho357005 => (simp only [List.getElem?_toArray, List.getElem?_cons_succ, List.getElem?_cons_zero]; exact rfl)
  go_simp
  go_at_call 66
  refine (clone_ok _ _ v.length v _ (HR.out.below HB0.out.drew) rfl h0).mono ?_
  rintro e w3 ⟨g, cg, rfl, hvs, hgs, hb3⟩
  refine hK.out _ _ ?_ (fun hHeld => ?_)
  · exact ⟨cell_keep hHeld.1 hb3, cell_keep hHeld.2.1 hb3, cell_keep hHeld.2.2.1 hb3, cell_keep hHeld.2.2.2.1 hb3, cell_keep hHeld.2.2.2.2.1 hb3, cell_keep hHeld.2.2.2.2.2.1 hb3, cell_keep hHeld.2.2.2.2.2.2.1 hb3, cell_keep hHeld.2.2.2.2.2.2.2.1 hb3, cell_keep hHeld.2.2.2.2.2.2.2.2.1 hb3, cell_keep hHeld.2.2.2.2.2.2.2.2.2.1 hb3, cell_keep hHeld.2.2.2.2.2.2.2.2.2.2.1 hb3, cell_keep hHeld.2.2.2.2.2.2.2.2.2.2.2.1 hb3, cell_keep hHeld.2.2.2.2.2.2.2.2.2.2.2.2.1 hb3, cell_keep hHeld.2.2.2.2.2.2.2.2.2.2.2.2.2.1 hb3, cell_keep hHeld.2.2.2.2.2.2.2.2.2.2.2.2.2.2.1 hb3, cell_keep hHeld.2.2.2.2.2.2.2.2.2.2.2.2.2.2.2.1 hb3, cell_keep hHeld.2.2.2.2.2.2.2.2.2.2.2.2.2.2.2.2.1 hb3, cell_keep hHeld.2.2.2.2.2.2.2.2.2.2.2.2.2.2.2.2.2 hb3⟩
  clear hK K
  try simp only [Act.put, List.setIfInBounds_toArray, List.set_cons_zero, List.set_cons_succ]
  refine wpP_take (i := 5) (oi := ?oi357006) (v := ?v357006) ?hi357006 (by kernel_rfl) (by kernel_rfl) (by kernel_rfl) (by kernel_rfl) ?hQ357006 ?hy357006 (by assumption) ?rest357006
  case hi357006 => (simp only [List.getElem?_toArray, List.getElem?_cons_succ, List.getElem?_cons_zero]; exact rfl)
  case hQ357006 => exact fun _ _ _ h => h
  case hy357006 => (refine Or.inl ⟨by kernel_rfl, ?_⟩; intro w hSw; (try dsimp only at hSw); go_simp; try (with_reducible rfl))
  try simp only [Act.put, List.setIfInBounds_toArray, List.set_cons_zero, List.set_cons_succ]
  refine wpP_ready (rs := [6]) (by kernel_rfl) (by simp) ?_
  refine AllP.cons (o := ?o357007) ?ho357007 (fun K hK => ?_) AllP.nil
  case ho357007 => (simp only [List.getElem?_toArray, List.getElem?_cons_succ, List.getElem?_cons_zero]; exact rfl)
  go_simp
  refine hK.out _ _ ?_ (fun hHeld => ?_)
  · exact (by have hal := (Below.refl w3.heap.size w3).alloc (Nat.le_refl _) (.cells #[.slice (some ⟨g, 0, none⟩) v.length cg, .int .i64 v.length, .int .i64 (inosV v), .int .i64 1, .int .i64 2, .int .i64 3, .int .i64 d, .int .i64 n, .int .i64 ((x.kind : Nat) : Int), .int .i64 ((x.links : Nat) : Int), .int .i64 ((x.owner : Nat) : Int), .int .i64 ((x.size : Nat) : Int), .int .i64 ((x.d0 : Nat) : Int), .int .i64 ((x.d1 : Nat) : Int), .int .i64 ((x.d2 : Nat) : Int), .int .i64 ((x.d3 : Nat) : Int), .int .i64 ((x.d4 : Nat) : Int), .int .i64 ((x.d5 : Nat) : Int), .int .i64 ((x.ind : Nat) : Int), .int .i64 ((x.ext : Nat) : Int)] 94); exact ⟨cell_keep hHeld.1 hal, cell_keep hHeld.2.1 hal, cell_keep hHeld.2.2.1 hal, cell_keep hHeld.2.2.2.1 hal, cell_keep hHeld.2.2.2.2.1 hal, cell_keep hHeld.2.2.2.2.2.1 hal, cell_keep hHeld.2.2.2.2.2.2.1 hal, cell_keep hHeld.2.2.2.2.2.2.2.1 hal, cell_keep hHeld.2.2.2.2.2.2.2.2.1 hal, cell_keep hHeld.2.2.2.2.2.2.2.2.2.1 hal, cell_keep hHeld.2.2.2.2.2.2.2.2.2.2.1 hal, cell_keep hHeld.2.2.2.2.2.2.2.2.2.2.2.1 hal, cell_keep hHeld.2.2.2.2.2.2.2.2.2.2.2.2.1 hal, cell_keep hHeld.2.2.2.2.2.2.2.2.2.2.2.2.2.1 hal, cell_keep hHeld.2.2.2.2.2.2.2.2.2.2.2.2.2.2.1 hal, cell_keep hHeld.2.2.2.2.2.2.2.2.2.2.2.2.2.2.2.1 hal, cell_keep hHeld.2.2.2.2.2.2.2.2.2.2.2.2.2.2.2.2.1 hal, cell_keep hHeld.2.2.2.2.2.2.2.2.2.2.2.2.2.2.2.2.2 hal⟩)
  clear hK K
  try simp only [Act.put, List.setIfInBounds_toArray, List.set_cons_zero, List.set_cons_succ]
  refine wpP_take (i := 7) (oi := ?oi357008) (v := ?v357008) ?hi357008 (by kernel_rfl) (by kernel_rfl) (by kernel_rfl) (by kernel_rfl) ?hQ357008 ?hy357008 (by assumption) ?rest357008
  case hi357008 => (simp only [List.getElem?_toArray, List.getElem?_cons_succ, List.getElem?_cons_zero]; exact rfl)
  case hQ357008 => exact fun _ _ _ h => h
  case hy357008 => (refine Or.inl ⟨by kernel_rfl, ?_⟩; intro w hSw; (try dsimp only at hSw); go_simp; try (with_reducible rfl))
  try simp only [Act.put, List.setIfInBounds_toArray, List.set_cons_zero, List.set_cons_succ]
  refine wpP_take (i := 8) (oi := ?oi357009) (v := ?v357009) ?hi357009 (by kernel_rfl) (by kernel_rfl) (by kernel_rfl) (by kernel_rfl) ?hQ357009 ?hy357009 (by assumption) ?rest357009
  case hi357009 => (simp only [List.getElem?_toArray, List.getElem?_cons_succ, List.getElem?_cons_zero]; exact rfl)
  case hQ357009 => exact fun _ _ _ h => h
  case hy357009 => (refine Or.inl ⟨by kernel_rfl, ?_⟩; intro w hSw; (try dsimp only at hSw); go_simp; try (with_reducible rfl))
  try simp only [Act.put, List.setIfInBounds_toArray, List.set_cons_zero, List.set_cons_succ]
  refine wpP_done (by kernel_rfl) ?_ _
  go_wp2
  go_ret2
  have hs0 := HB0.out.size
  have hs3 : W0.heap.size ≤ w3.heap.size := hb3.size
  have hs4 : W0.heap.size ≤ g := hgs
  have hBx : Below w.heap.size w (w3.alloc (.cells #[.slice (some ⟨g, 0, none⟩) v.length cg, .int .i64 v.length, .int .i64 (inosV v), .int .i64 1, .int .i64 2, .int .i64 3, .int .i64 d, .int .i64 n, .int .i64 ((x.kind : Nat) : Int), .int .i64 ((x.links : Nat) : Int), .int .i64 ((x.owner : Nat) : Int), .int .i64 ((x.size : Nat) : Int), .int .i64 ((x.d0 : Nat) : Int), .int .i64 ((x.d1 : Nat) : Int), .int .i64 ((x.d2 : Nat) : Int), .int .i64 ((x.d3 : Nat) : Int), .int .i64 ((x.d4 : Nat) : Int), .int .i64 ((x.d5 : Nat) : Int), .int .i64 ((x.ind : Nat) : Int), .int .i64 ((x.ext : Nat) : Int)] 94)) := (below_keep HB0.out (Nat.le_refl _) (below_und hb3)).alloc (by omega) _
  exact ⟨w3.heap.size, g, cg, rfl, ⟨blk_new w3 _, hvs.keep ((Below.refl _ _).alloc (Nat.le_refl _) _), rfl, by have := hvs.lt; omega⟩, by omega, by omega, hBx⟩
set_option maxHeartbeats 1000000 in
theorem open_no (A : Option Addr) (c : Nat) (v : Vol) (n : Int) (w : World) (hr : RS w A v) (h : getE v n ≠ 0) :
    Calls Try.prog 51 #[.slice A v.length c, .int .i64 n] w fun e w' => e = .returned (.tuple #[.pointer none, .int .i64 (getE v n)]) ∧ Below w.heap.size w w' := by
  have HP := Lib.hid (fun w hr => iget_no A c v n w hr h)
  have HR := Lib.hid hr
  clear hr
  generalize getE v n = er at *
  have hb : (er == 0) = false := by simpa using h
  have hbn : (er != 0) = true := by simpa using h
  go_enter Try.func51, Try.ntmps51
  go_wp2_with (go_at_call 32; refine (HP.out _ HR.out).mono ?_; rintro e w1 ⟨rfl, hb1⟩)
  go_ret2
  exact ⟨rfl, hb1.alloc hb1.size _⟩
end Go.Proofs.Ytacdohlhalnioaa

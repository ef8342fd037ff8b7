/- Contract: an open file takes a block (or none is left). -/
import Derived.Test.YtacdohlhalnioaaP0
import Derived.Test.YtacdohlhalnioaaG3
set_option linter.unusedVariables false
set_option maxRecDepth 20000
namespace Go.Proofs.Ytacdohlhalnioaa
open Go.RowKit
attribute [local go_sem] Oper.semAt_some

theorem tookV_same (v : Vol) (b : Nat) : (tookV v b).set b (zs 128) = tookV v b := by simp [tookV]
set_option maxHeartbeats 4000000 in
theorem xtake_ok (F g c L I d n : Nat) (v : Vol) (x : Ino) (b : Nat) (w : World) (hf : FileAt w F g c L I d n v x) (hv : okV v = true) (hb : freeB v = some b) :
    Calls Try.prog 110 #[.pointer (some ⟨F, 0, none⟩)] w fun e w' => e = .returned (.tuple #[.int .i64 b, .int .i64 0]) ∧ ∃ g' c', FileAt w' F g' c' L I d n (tookV v b) x ∧ w.heap.size ≤ g' ∧ ∀ B, B ≤ F → Below B w w' := by
  obtain rfl := hf.len
  obtain ⟨f1, f2, f3, f4⟩ := freeB_some hb
  have H := okV_iff.1 hv
  have hlo := H.lo
  have hhi := H.hi
  have hlt := tookV_length v b
  have hbi : (b : Int) < (v.length : Nat) := by omega
  have htk := Lib.hid (fun w A c hr => take_ok A c v b w hr hv f1 f2 f3 f4)
  rw [show (v.set 2 (turn (bk v 2) b)).set b (zs 128) = tookV v b from rfl] at htk
  have c0 : w.cell? ⟨F, 0, none⟩ = some (.slice (some ⟨g, 0, none⟩) v.length c) := by rw [cell_at hf.blk]; rfl
  have hcl := Lib.hid (fun A c w hr => clone_ok A c v.length (tookV v b) w hr hlt (by omega))
  have HF := Lib.hid hf
  have HFL := hf.lt
  have HT := Lib.hid hlt
  have HS := Lib.hid (tookV_same v b)
  generalize tookV v b = V at *
  clear hf hv H f3 f4 hb hlt
  go_enter Try.func110, Try.ntmps110
  go_wp2_with (first
    | (go_at_call 129; refine (htk.out _ _ _ (HF.out.vol.rs (by omega))).mono ?_; rintro e w1 ⟨g1, c1, rfl, hg1, hgs1, hb1⟩; have HB1 := Lib.hid hb1; clear hb1)
    | (go_at_call 66; refine (hcl.out _ _ _ (hg1.rs (by rw [HT.out]; omega))).mono ?_; rintro e w2 ⟨g2, cc, rfl, hg2, hgs2, hb2⟩; have hq := blk_keep (blk_keep HF.out.blk HB1.out) hb2; have hfr := free_of hq 0; have c2 : w2.cell? ⟨F, 0, none⟩ = some (.slice (some ⟨g, 0, none⟩) v.length c) := by rw [cell_at hq]; rfl
       have HQ := Lib.hid hq; have HB2 := Lib.hid hb2; have HG2 := Lib.hid hg2; clear hb2 hq hg2))
  have hs1 := HB1.out.size
  have hne : g2 ≠ F := by omega
  have hq3 := blk_set HQ.out 0 (.slice (some ⟨g2, 0, none⟩) v.length cc)
  simp only [List.setIfInBounds_toArray, List.set_cons_zero] at hq3
  have hg3 : VS (w2.setCell ⟨F, 0, none⟩ (.slice (some ⟨g2, 0, none⟩) v.length cc)) g2 V := HG2.out.other hne
  have hB3 : ∀ B, B ≤ F → Below B w (w2.setCell ⟨F, 0, none⟩ (.slice (some ⟨g2, 0, none⟩) v.length cc)) := fun B hB => below_set (below_keep (HB1.out.mono (by omega)) (by omega) HB2.out) hB
  generalize w2.setCell ⟨F, 0, none⟩ (.slice (some ⟨g2, 0, none⟩) v.length cc) = W3 at *
  have c3 : W3.cell? ⟨F, 0, none⟩ = some (.slice (some ⟨g2, 0, none⟩) v.length cc) := by rw [cell_at hq3]; rfl
  have HQ3 := Lib.hid hq3
  have HG3 := Lib.hid hg3
  have HB3 := Lib.hid hB3
  clear hq3 hg3 hB3
  refine region_P (fun w' => w'.cell? ⟨F, 0, none⟩ = some (.slice (some ⟨g2, 0, none⟩) v.length cc)) [7] (by kernel_rfl) ?_ (fun hHeld => ?_)
  · exact c3
  refine wpP_take (i := 0) (oi := ?oi10001) (v := ?v10001) ?hi10001 (by kernel_rfl) (by kernel_rfl) (by kernel_rfl) (by kernel_rfl) ?hQ10001 ?hy10001 (by assumption) ?rest10001
  case hi10001 => (simp only [List.getElem?_toArray, List.getElem?_cons_succ, List.getElem?_cons_zero]; exact rfl)
  case hQ10001 => exact fun _ _ _ h => h
  case hy10001 => (refine Or.inl ⟨by kernel_rfl, ?_⟩; intro w hSw; (try dsimp only at hSw); go_simp; try (with_reducible rfl))
  try simp only [Act.put, List.setIfInBounds_toArray, List.set_cons_zero, List.set_cons_succ]
  refine wpP_take (i := 1) (oi := ?oi10002) (v := ?v10002) ?hi10002 (by kernel_rfl) (by kernel_rfl) (by kernel_rfl) (by kernel_rfl) ?hQ10002 ?hy10002 (by assumption) ?rest10002
  case hi10002 => (simp only [List.getElem?_toArray, List.getElem?_cons_succ, List.getElem?_cons_zero]; exact rfl)
  case hQ10002 => exact fun _ _ _ h => h
  case hy10002 => (refine Or.inl ⟨by kernel_rfl, ?_⟩; intro w hSw; (try dsimp only at hSw); go_simp; try (with_reducible rfl))
  try simp only [Act.put, List.setIfInBounds_toArray, List.set_cons_zero, List.set_cons_succ]
  refine wpP_take (i := 2) (oi := ?oi10003) (v := ?v10003) ?hi10003 (by kernel_rfl) (by kernel_rfl) (by kernel_rfl) (by kernel_rfl) ?hQ10003 ?hy10003 (by assumption) ?rest10003
  case hi10003 => (simp only [List.getElem?_toArray, List.getElem?_cons_succ, List.getElem?_cons_zero]; exact rfl)
  case hQ10003 => exact fun _ _ _ h => h
  case hy10003 => (refine Or.inl ⟨by kernel_rfl, ?_⟩; intro w hSw; (try dsimp only at hSw); go_simp; try (with_reducible rfl))
  try simp only [Act.put, List.setIfInBounds_toArray, List.set_cons_zero, List.set_cons_succ]
  refine wpP_take (i := 3) (oi := ?oi10004) (v := ?v10004) ?hi10004 (by kernel_rfl) (by kernel_rfl) (by kernel_rfl) (by kernel_rfl) ?hQ10004 ?hy10004 (by assumption) ?rest10004
  case hi10004 => (simp only [List.getElem?_toArray, List.getElem?_cons_succ, List.getElem?_cons_zero]; exact rfl)
  case hQ10004 => exact fun _ _ _ h => h
  case hy10004 => (refine Or.inl ⟨by kernel_rfl, ?_⟩; intro w hSw; (try dsimp only at hSw); go_simp; try (with_reducible rfl))
  try simp only [Act.put, List.setIfInBounds_toArray, List.set_cons_zero, List.set_cons_succ]
  refine wpP_take (i := 4) (oi := ?oi10005) (v := ?v10005) ?hi10005 (by kernel_rfl) (by kernel_rfl) (by kernel_rfl) (by kernel_rfl) ?hQ10005 ?hy10005 (by assumption) ?rest10005
  case hi10005 => (simp only [List.getElem?_toArray, List.getElem?_cons_succ, List.getElem?_cons_zero]; exact rfl)
  case hQ10005 => exact fun _ _ _ h => h
  case hy10005 => (refine Or.inl ⟨by kernel_rfl, ?_⟩; intro w hSw; (try dsimp only at hSw); go_simp; try (with_reducible rfl))
  try simp only [Act.put, List.setIfInBounds_toArray, List.set_cons_zero, List.set_cons_succ]
  refine wpP_ready (rs := [5]) (by kernel_rfl) (by simp) ?_
  refine AllP.cons (o := ?o10006) ?ho10006 (fun K hK => ?_) AllP.nil
  case ho10006 => (simp only [List.getElem?_toArray, List.getElem?_cons_succ, List.getElem?_cons_zero]; exact rfl)
  go_simp
  go_at_call 61
  refine (repeat0_ok 128 _ (by omega)).mono ?_
  rintro e w4 ⟨rfl, hb4⟩
  have k4 : Below W3.heap.size W3 w4 := below_und hb4
  have d1 := (HG3.out.keep k4).cell b (by rw [HT.out]; omega)
  have d2 := (HG3.out.keep k4).free b
  refine hK.out _ _ ?_ (fun hHeld => ?_)
  · exact (cell_keep hHeld hb4)
  clear hK K
  try simp only [Act.put, List.setIfInBounds_toArray, List.set_cons_zero, List.set_cons_succ]
  refine wpP_take (i := 6) (oi := ?oi10007) (v := ?v10007) ?hi10007 (by kernel_rfl) (by kernel_rfl) (by kernel_rfl) (by kernel_rfl) ?hQ10007 ?hy10007 (by assumption) ?rest10007
  case hi10007 => (simp only [List.getElem?_toArray, List.getElem?_cons_succ, List.getElem?_cons_zero]; exact rfl)
  case hQ10007 => exact fun _ _ _ h => h
  case hy10007 => (refine Or.inl ⟨by kernel_rfl, ?_⟩; intro w hSw; (try dsimp only at hSw); go_simp; try (with_reducible rfl))
  try simp only [Act.put, List.setIfInBounds_toArray, List.set_cons_zero, List.set_cons_succ]
  refine wpP_ready (rs := [7]) (by kernel_rfl) (by simp) ?_
  refine AllP.last (o := ?o10008) ?ho10008 (by kernel_rfl) (fun K hK => ?_) AllP.nil
  case ho10008 => (simp only [List.getElem?_toArray, List.getElem?_cons_succ, List.getElem?_cons_zero]; exact rfl)
  go_simp
  refine hK.out _ _ ?_
  clear hK K
  try simp only [Act.put, List.setIfInBounds_toArray, List.set_cons_zero, List.set_cons_succ]
  refine wpP_done (by kernel_rfl) ?_ _
  go_wp2
  go_ret2
  have hq4 := blk_keep HQ3.out k4
  have hg4 := HG3.out.keep k4
  refine ⟨rfl, g2, cc, ⟨?_, ?_, HT.out, by omega⟩, by omega, fun B hB => below_set (below_keep (HB3.out B hB) (by omega) k4) (by omega)⟩
  · exact blk_set_other hq4 (by omega) _ _
  · have := hg4.set b (zs 128) (by rw [HT.out]; omega)
    rw [HS.out] at this
    exact this
set_option maxHeartbeats 1000000 in
theorem xtake_full (F g c L I d n : Nat) (v : Vol) (x : Ino) (w : World) (hf : FileAt w F g c L I d n v x) (hv : okV v = true) (hb : freeB v = none) :
    Calls Try.prog 110 #[.pointer (some ⟨F, 0, none⟩)] w fun e w' => e = .returned (.tuple #[.int .i64 0, .int .i64 10]) ∧ Below w.heap.size w w' := by
  obtain rfl := hf.len
  have f4 := freeB_none hb
  have hhi := (okV_iff.1 hv).hi
  have htk := Lib.hid (fun w A c hr => take_full A c v w hr hv f4)
  have c0 : w.cell? ⟨F, 0, none⟩ = some (.slice (some ⟨g, 0, none⟩) v.length c) := by rw [cell_at hf.blk]; rfl
  have HF := Lib.hid hf
  clear hf hv f4 hb
  go_enter Try.func110, Try.ntmps110
  go_wp2_with (go_at_call 129; refine (htk.out _ _ _ (HF.out.vol.rs (by omega))).mono ?_; rintro e w1 ⟨rfl, hb1⟩)
  go_ret2
  exact ⟨rfl, hb1⟩
end Go.Proofs.Ytacdohlhalnioaa

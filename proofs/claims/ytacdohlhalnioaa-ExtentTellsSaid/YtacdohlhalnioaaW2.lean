/- Contract: an open file has a number name a block. -/
import Derived.Test.YtacdohlhalnioaaE2
import Derived.Test.YtacdohlhalnioaaP0
import Derived.Lib.ConvBytes
set_option linter.unusedVariables false
set_option maxRecDepth 20000
namespace Go.Proofs.Ytacdohlhalnioaa
open Go.RowKit
attribute [local go_sem] Oper.semAt_some

theorem fcells_set (F g c L I d n k b : Nat) (x : Ino) (hk : k < 6) :
    (#[.slice (some ⟨g, 0, none⟩) L c, .int .i64 L, .int .i64 I, .int .i64 1, .int .i64 2, .int .i64 3, .int .i64 d, .int .i64 n, .int .i64 ((x.kind : Nat) : Int), .int .i64 ((x.links : Nat) : Int), .int .i64 ((x.owner : Nat) : Int), .int .i64 ((x.size : Nat) : Int), .int .i64 ((x.d0 : Nat) : Int), .int .i64 ((x.d1 : Nat) : Int), .int .i64 ((x.d2 : Nat) : Int), .int .i64 ((x.d3 : Nat) : Int), .int .i64 ((x.d4 : Nat) : Int), .int .i64 ((x.d5 : Nat) : Int), .int .i64 ((x.ind : Nat) : Int), .int .i64 ((x.ext : Nat) : Int)] : Array Value).setIfInBounds (12 + k) (.int .i64 b) = #[.slice (some ⟨g, 0, none⟩) L c, .int .i64 L, .int .i64 I, .int .i64 1, .int .i64 2, .int .i64 3, .int .i64 d, .int .i64 n, .int .i64 (((x.setD k b).kind : Nat) : Int), .int .i64 (((x.setD k b).links : Nat) : Int), .int .i64 (((x.setD k b).owner : Nat) : Int), .int .i64 (((x.setD k b).size : Nat) : Int), .int .i64 (((x.setD k b).d0 : Nat) : Int), .int .i64 (((x.setD k b).d1 : Nat) : Int), .int .i64 (((x.setD k b).d2 : Nat) : Int), .int .i64 (((x.setD k b).d3 : Nat) : Int), .int .i64 (((x.setD k b).d4 : Nat) : Int), .int .i64 (((x.setD k b).d5 : Nat) : Int), .int .i64 (((x.setD k b).ind : Nat) : Int), .int .i64 (((x.setD k b).ext : Nat) : Int)] := by
  rcases (by omega : k = 0 ∨ k = 1 ∨ k = 2 ∨ k = 3 ∨ k = 4 ∨ k = 5) with rfl | rfl | rfl | rfl | rfl | rfl <;> rfl
theorem wrap_u8 (b : Nat) : IntKind.u8.wrap (b : Int) = ((b % 256 : Nat) : Int) := by simp [IntKind.wrap, IntKind.bits, IntKind.signed]
theorem bytes_conv (s : Blk) (W : World) : (convert 9 62 (.string (mk s))).run Try.prog W = .ok (.slice (some ⟨W.heap.size, 0, none⟩) s.length (grownCap W s.length 0 5)) (Lib.bytesWorld W 5 (mk s)) := by
  have h := Lib.run_convert_string_bytes (P := Try.prog) W 9 62 5 (mk s) Try.underlying9 Try.underlying62 Try.underlying5
  rw [mk_size] at h
  exact h
theorem bytes_cell (s : Blk) (W : World) (j : Nat) (hj : j < s.length) : (Lib.bytesWorld W 5 (mk s)).cell? ⟨W.heap.size, j, none⟩ = some (.int .u8 (gb s j)) := by
  rw [Lib.bytesWorld_cell W _ (mk s) j (by simpa using hj)]
  rfl
theorem bytes_free (s : Blk) (W : World) (j : Nat) (hj : j < s.length) : (Lib.bytesWorld W 5 (mk s)).frozen? ⟨W.heap.size, j, none⟩ = false := by
  have hsz : s.length ≤ (Lib.bytesCells W 5 (mk s)).size := by simp [Lib.bytesCells]
  simp only [World.frozen?, Lib.bytesWorld_at_new]
  simp
  omega
theorem bytes_below (s : Blk) (W : World) : Below W.heap.size W (Lib.bytesWorld W 5 (mk s)) :=
  ⟨rfl, rfl, rfl, by rw [Lib.bytesWorld_size]; omega, fun j hj => Lib.bytesWorld_at_old W _ _ j hj⟩

set_option maxHeartbeats 4000000 in
theorem xname_near (F g c L I d n : Nat) (v : Vol) (x : Ino) (k b : Nat) (w : World) (hf : FileAt w F g c L I d n v x) (hk : k < 6) :
    Calls Try.prog 111 #[.pointer (some ⟨F, 0, none⟩), .int .i64 k, .int .i64 b] w fun e w' => e = .returned (.tuple #[]) ∧ FileAt w' F g c L I d n v (x.setD k b) ∧ ∀ B, B ≤ F → Below B w w' := by
  have hfr := free_of hf.blk (12 + k)
  have hset := blk_set hf.blk (12 + k) (.int .i64 b)
  rw [fcells_set F g c L I d n k b x hk] at hset
  have hc : w.cell? ⟨F, 12 + k, none⟩ = some (.int .i64 ((x.list.getD (4 + k) 0 : Nat) : Int)) := by
    rw [cell_at hf.blk]
    rcases (by omega : k = 0 ∨ k = 1 ∨ k = 2 ∨ k = 3 ∨ k = 4 ∨ k = 5) with rfl | rfl | rfl | rfl | rfl | rfl <;> rfl
  have HF := Lib.hid hf
  have HSET := Lib.hid hset
  have hki : (k : Int) < 6 := by omega
  generalize x.list.getD (4 + k) 0 = b0 at *
  clear hf hset
  go_enter Try.func111, Try.ntmps111
  go_wp2
  refine bodyPost_ret (v := .tuple #[]) (by simp [results, Try.results111, go_sem]) rfl ?_
  refine ⟨rfl, ⟨HSET.out, HF.out.vol.other (Ne.symm HF.out.ne), HF.out.len, HF.out.ne⟩, fun B hB => below_set (Below.refl _ _) hB⟩
theorem gb_set' (m : Blk) (i j n : Nat) (hi : i < m.length) : gb (m.set i (UInt8.ofNat n)) j = if j = i then n % 256 else gb m j := by
  unfold gb
  by_cases h : j = i
  · subst h
    rw [if_pos rfl, List.getD_eq_getElem?_getD, List.getElem?_set_self hi]
    simp
  · rw [if_neg h, List.getD_eq_getElem?_getD, List.getElem?_set_ne (by omega), ← List.getD_eq_getElem?_getD]
set_option maxHeartbeats 4000000 in
theorem xname_far (F g c L I d n : Nat) (v : Vol) (x : Ino) (k b : Nat) (w : World) (hf : FileAt w F g c L I d n v x) (hk : 6 ≤ k) (hk2 : k < 70) (hb : b < 256) (hg : goodN d L x.ind = true) (hs : ∀ j, j < L → (bk v j).length = 128) (hL : L ≤ 223) :
    Calls Try.prog 111 #[.pointer (some ⟨F, 0, none⟩), .int .i64 k, .int .i64 b] w fun e w' => e = .returned (.tuple #[]) ∧ FileAt w' F g c L I d n (v.set x.ind (put2 (bk v x.ind) (2 * (k - 6)) b)) x ∧ ∀ B, B ≤ F → B ≤ g → Below B w w' := by
  have HF := Lib.hid hf
  obtain rfl := hf.len
  have hg2 := goodN_iff.1 hg
  have hsi := hs x.ind (by omega)
  have hci := hf.vol.cell x.ind (by omega)
  have hfi := hf.vol.free x.ind
  have c0 : w.cell? ⟨F, 0, none⟩ = some (.slice (some ⟨g, 0, none⟩) v.length c) := by rw [cell_at hf.blk]; rfl
  have c18 : w.cell? ⟨F, 18, none⟩ = some (.int .i64 x.ind) := by rw [cell_at hf.blk]; rfl
  have hgood := Lib.hid (fun w' (hf' : FileAt w' F g c v.length I d n v x) => good_ok F g c v.length I d n v x x.ind w' hf')
  rw [hg] at hgood
  obtain ⟨m, hm⟩ : ∃ m, 2 * (k - 6) = m := ⟨_, rfl⟩
  have hm2 : m + 1 < 128 := by omega
  have hfar := Lib.hid (fun w' => far_ok k w' hk hk2)
  rw [hm] at hfar ⊢
  obtain ⟨s, hsb⟩ : ∃ s, bk v x.ind = s := ⟨_, rfl⟩
  rw [hsb] at hsi hci ⊢
  have HSB := Lib.hid hsb
  have hi1 : (x.ind : Int) < (v.length : Int) := by omega
  have hki : ¬ ((k : Int) < 6) := by omega
  have hcv := bytes_conv s
  have HCV := Lib.hid hcv
  clear hf hs hg hsb
  go_enter Try.func111, Try.ntmps111
  go_wp2_with (go_at_call 63; refine (hgood.out _ HF.out).mono ?_; rintro e w3 ⟨rfl, rfl⟩)
  refine region_P (fun w' => w'.cell? ⟨F, 0, none⟩ = some (.slice (some ⟨g, 0, none⟩) v.length c) ∧ w'.cell? ⟨F, 18, none⟩ = some (.int .i64 x.ind) ∧ w'.cell? ⟨g, x.ind, none⟩ = some (.string (mk s))) [] (by kernel_rfl) ?_ (fun hHeld => ?_)
  · exact ⟨c0, c18, hci⟩
  refine wpP_take (i := 0) (oi := ?oi56001) (v := ?v56001) ?hi56001 (by kernel_rfl) (by kernel_rfl) (by kernel_rfl) (by kernel_rfl) ?hQ56001 ?hy56001 (by assumption) ?rest56001
  case hi56001 => (simp only [List.getElem?_toArray, List.getElem?_cons_succ, List.getElem?_cons_zero]; exact rfl)
  case hQ56001 => exact fun _ _ _ h => h
  case hy56001 => (refine Or.inl ⟨by kernel_rfl, ?_⟩; intro w hSw; (try dsimp only at hSw); go_simp; try (with_reducible rfl))
  try simp only [Act.put, List.setIfInBounds_toArray, List.set_cons_zero, List.set_cons_succ]
  refine wpP_take (i := 1) (oi := ?oi56002) (v := ?v56002) ?hi56002 (by kernel_rfl) (by kernel_rfl) (by kernel_rfl) (by kernel_rfl) ?hQ56002 ?hy56002 (by assumption) ?rest56002
  case hi56002 => (simp only [List.getElem?_toArray, List.getElem?_cons_succ, List.getElem?_cons_zero]; exact rfl)
  case hQ56002 => exact fun _ _ _ h => h
  case hy56002 => (refine Or.inl ⟨by kernel_rfl, ?_⟩; intro w hSw; (try dsimp only at hSw); go_simp; try (with_reducible rfl))
  try simp only [Act.put, List.setIfInBounds_toArray, List.set_cons_zero, List.set_cons_succ]
  refine wpP_take (i := 2) (oi := ?oi56003) (v := ?v56003) ?hi56003 (by kernel_rfl) (by kernel_rfl) (by kernel_rfl) (by kernel_rfl) ?hQ56003 ?hy56003 (by assumption) ?rest56003
  case hi56003 => (simp only [List.getElem?_toArray, List.getElem?_cons_succ, List.getElem?_cons_zero]; exact rfl)
  case hQ56003 => exact fun _ _ _ h => h
  case hy56003 => (refine Or.inl ⟨by kernel_rfl, ?_⟩; intro w hSw; (try dsimp only at hSw); go_simp; try (with_reducible rfl))
  try simp only [Act.put, List.setIfInBounds_toArray, List.set_cons_zero, List.set_cons_succ]
  refine wpP_take (i := 3) (oi := ?oi56004) (v := ?v56004) ?hi56004 (by kernel_rfl) (by kernel_rfl) (by kernel_rfl) (by kernel_rfl) ?hQ56004 ?hy56004 (by assumption) ?rest56004
  case hi56004 => (simp only [List.getElem?_toArray, List.getElem?_cons_succ, List.getElem?_cons_zero]; exact rfl)
  case hQ56004 => exact fun _ _ _ h => h
  case hy56004 => (refine Or.inl ⟨by kernel_rfl, ?_⟩; intro w hSw; (try dsimp only at hSw); go_simp; try (with_reducible rfl))
  try simp only [Act.put, List.setIfInBounds_toArray, List.set_cons_zero, List.set_cons_succ]
  refine wpP_take (i := 4) (oi := ?oi56005) (v := ?v56005) ?hi56005 (by kernel_rfl) (by kernel_rfl) (by kernel_rfl) (by kernel_rfl) ?hQ56005 ?hy56005 (by assumption) ?rest56005
  case hi56005 => (simp only [List.getElem?_toArray, List.getElem?_cons_succ, List.getElem?_cons_zero]; exact rfl)
  case hQ56005 => exact fun _ _ _ h => h
  case hy56005 => (refine Or.inl ⟨by kernel_rfl, ?_⟩; intro w hSw; (try dsimp only at hSw); go_simp; try (with_reducible rfl))
  try simp only [Act.put, List.setIfInBounds_toArray, List.set_cons_zero, List.set_cons_succ]
  refine wpP_take (i := 5) (oi := ?oi56006) (v := ?v56006) ?hi56006 (by kernel_rfl) (by kernel_rfl) (by kernel_rfl) (by kernel_rfl) ?hQ56006 ?hy56006 (by assumption) ?rest56006
  case hi56006 => (simp only [List.getElem?_toArray, List.getElem?_cons_succ, List.getElem?_cons_zero]; exact rfl)
  case hQ56006 => exact fun _ _ _ h => h
  case hy56006 => (refine Or.inl ⟨by kernel_rfl, ?_⟩; intro w hSw; (try dsimp only at hSw); go_simp; try (with_reducible rfl))
  try simp only [Act.put, List.setIfInBounds_toArray, List.set_cons_zero, List.set_cons_succ]
  refine wpP_take (i := 6) (oi := ?oi56007) (v := ?v56007) ?hi56007 (by kernel_rfl) (by kernel_rfl) (by kernel_rfl) (by kernel_rfl) ?hQ56007 ?hy56007 (by assumption) ?rest56007
  case hi56007 => (simp only [List.getElem?_toArray, List.getElem?_cons_succ, List.getElem?_cons_zero]; exact rfl)
  case hQ56007 => exact fun _ _ _ h => h
  case hy56007 => (refine Or.inl ⟨by kernel_rfl, ?_⟩; intro w hSw; (try dsimp only at hSw); go_simp; try (with_reducible rfl))
  try simp only [Act.put, List.setIfInBounds_toArray, List.set_cons_zero, List.set_cons_succ]
  refine wpP_take (i := 7) (oi := ?oi56008) (v := ?v56008) ?hi56008 (by kernel_rfl) (by kernel_rfl) (by kernel_rfl) (by kernel_rfl) ?hQ56008 ?hy56008 (by assumption) ?rest56008
  case hi56008 => (simp only [List.getElem?_toArray, List.getElem?_cons_succ, List.getElem?_cons_zero]; exact rfl)
  case hQ56008 => exact fun _ _ _ h => h
  case hy56008 => (refine Or.inl ⟨by kernel_rfl, ?_⟩; intro w hSw; (try dsimp only at hSw); go_simp; try (with_reducible rfl))
  try simp only [Act.put, List.setIfInBounds_toArray, List.set_cons_zero, List.set_cons_succ]
  refine wpP_take (i := 8) (oi := ?oi56009) (v := ?v56009) ?hi56009 (by kernel_rfl) (by kernel_rfl) (by kernel_rfl) (by kernel_rfl) ?hQ56009 ?hy56009 (by assumption) ?rest56009
  case hi56009 => (simp only [List.getElem?_toArray, List.getElem?_cons_succ, List.getElem?_cons_zero]; exact rfl)
  case hQ56009 => exact fun _ _ _ h => h
  case hy56009 => (refine Or.inl ⟨by kernel_rfl, ?_⟩; intro w hSw; (try dsimp only at hSw); go_simp; try (with_reducible rfl))
  try simp only [Act.put, List.setIfInBounds_toArray, List.set_cons_zero, List.set_cons_succ]
  refine wpP_take (i := 9) (oi := ?oi56010) (v := ?v56010) ?hi56010 (by kernel_rfl) (by kernel_rfl) (by kernel_rfl) (by kernel_rfl) ?hQ56010 ?hy56010 (by assumption) ?rest56010
  case hi56010 => (simp only [List.getElem?_toArray, List.getElem?_cons_succ, List.getElem?_cons_zero]; exact rfl)
  case hQ56010 => exact fun _ _ _ h => h
  case hy56010 => (refine Or.inl ⟨by kernel_rfl, ?_⟩; intro w hSw; (try dsimp only at hSw); go_simp; try (with_reducible rfl))
  try simp only [Act.put, List.setIfInBounds_toArray, List.set_cons_zero, List.set_cons_succ]
  refine wpP_take (i := 10) (oi := ?oi56011) (v := ?v56011) ?hi56011 (by kernel_rfl) (by kernel_rfl) (by kernel_rfl) (by kernel_rfl) ?hQ56011 ?hy56011 (by assumption) ?rest56011
  case hi56011 => (simp only [List.getElem?_toArray, List.getElem?_cons_succ, List.getElem?_cons_zero]; exact rfl)
  case hQ56011 => exact fun _ _ _ h => h
  case hy56011 => (refine Or.inl ⟨by kernel_rfl, ?_⟩; intro w hSw; (try dsimp only at hSw); go_simp; try (with_reducible rfl))
  try simp only [Act.put, List.setIfInBounds_toArray, List.set_cons_zero, List.set_cons_succ]
  refine wpP_ready (rs := [11]) (by kernel_rfl) (by simp) ?_
  refine AllP.cons (o := ?o56012) ?ho56012 (fun K hK => ?_) AllP.nil
  case ho56012 => (simp only [List.getElem?_toArray, List.getElem?_cons_succ, List.getElem?_cons_zero]; exact rfl)
  go_simp
  refine hK.out _ _ ?_ (fun hHeld => ?_)
  · exact ⟨cell_keep hHeld.1 (bytes_below s _), cell_keep hHeld.2.1 (bytes_below s _), cell_keep hHeld.2.2 (bytes_below s _)⟩
  clear hK K
  try simp only [Act.put, List.setIfInBounds_toArray, List.set_cons_zero, List.set_cons_succ]
  refine wpP_take (i := 12) (oi := ?oi56013) (v := ?v56013) ?hi56013 (by kernel_rfl) (by kernel_rfl) (by kernel_rfl) (by kernel_rfl) ?hQ56013 ?hy56013 (by assumption) ?rest56013
  case hi56013 => (simp only [List.getElem?_toArray, List.getElem?_cons_succ, List.getElem?_cons_zero]; exact rfl)
  case hQ56013 => exact fun _ _ _ h => h
  case hy56013 => (refine Or.inl ⟨by kernel_rfl, ?_⟩; intro w hSw; (try dsimp only at hSw); go_simp; try (with_reducible rfl))
  try simp only [Act.put, List.setIfInBounds_toArray, List.set_cons_zero, List.set_cons_succ]
  refine wpP_done (by kernel_rfl) ?_ _
  have hblk := Lib.bytesWorld_at_new w.drew 5 (mk s)
  have hcells := fun j hj => bytes_cell s w.drew j hj
  have hfrees := fun j hj => bytes_free s w.drew j hj
  have hbB : Below w.heap.size w (Lib.bytesWorld w.drew 5 (mk s)) := below_und (bytes_below s _)
  obtain ⟨W1, hW1⟩ : ∃ W1, Lib.bytesWorld w.drew 5 (mk s) = W1 := ⟨_, rfl⟩
  obtain ⟨cp, hcp⟩ : ∃ cp, grownCap w.drew 128 0 5 = cp := ⟨_, rfl⟩
  obtain ⟨C, hC⟩ : ∃ C, Lib.bytesCells w.drew 5 (mk s) = C := ⟨_, rfl⟩
  rw [hW1] at hblk hcells hfrees hbB ⊢
  rw [hcp]
  rw [hC] at hblk
  have e0 : w.drew.heap.size = w.heap.size := rfl
  rw [e0] at hblk hcells hfrees
  obtain ⟨q, hq⟩ : ∃ q, w.heap.size = q := ⟨_, rfl⟩
  rw [hq] at hblk hcells hfrees hbB ⊢
  rw [hsi] at hcells hfrees
  have cm := hcells m (by omega)
  have fm := hfrees m (by omega)
  have cm1 : (W1.setCell ⟨q, m, none⟩ (.int .u8 b)).cell? ⟨q, m + 1, none⟩ = some (.int .u8 (gb s (m + 1) : Nat)) := by
    have := hcells (m + 1) (by omega)
    rw [cell_at hblk] at this
    rw [cell_at (blk_set hblk m _), Array.getElem?_setIfInBounds_ne (by omega)]
    exact this
  have fm1 : (W1.setCell ⟨q, m, none⟩ (.int .u8 b)).frozen? ⟨q, m + 1, none⟩ = false := by
    have := hfrees (m + 1) (by omega)
    simp only [World.frozen?, hblk] at this
    simp only [World.frozen?, blk_set hblk m _]
    exact this
  have HC := Lib.hid hcells
  have HBL := Lib.hid hblk
  have HBB := Lib.hid hbB
  have hwb : IntKind.u8.wrap (b : Int) = (b : Int) := by rw [wrap_u8]; omega
  have hm1 : (m : Int) < 128 := by omega
  have hm1' : (m : Int) + 1 < 128 := by omega
  have hwm : IntKind.i64.wrap ((m : Int) + 1) = (m : Int) + 1 := by simp [IntKind.wrap, IntKind.bits, IntKind.signed]; omega
  have htm : ((m : Int) + 1).toNat = m + 1 := by omega
  have hpm : (0 : Int) ≤ (m : Int) + 1 := by omega
  clear hcells hfrees hblk hbB hcv
  go_wp2_with (go_at_call 121; refine (hfar.out _).mono ?_; rintro e w3 ⟨rfl, rfl⟩)
  have hFq : F < q := by rw [← hq]; exact HF.out.lt
  have hgq : g < q := by rw [← hq]; exact HF.out.vol.lt
  have hF1 : FileAt W1 F g c v.length I d n v x := HF.out.keep (by rw [hq]; exact HBB.out)
  have hbl2 := blk_set (blk_set HBL.out m (.int .u8 (b : Nat))) (m + 1) (.int .u8 ((b : Int) / 256))
  have hv2 : VS ((W1.setCell ⟨q, m, none⟩ (.int .u8 b)).setCell ⟨q, m + 1, none⟩ (.int .u8 ((b : Int) / 256))) g v := (hF1.vol.other (by omega)).other (by omega)
  have hf2 : ((W1.setCell ⟨q, m, none⟩ (.int .u8 b)).setCell ⟨q, m + 1, none⟩ (.int .u8 ((b : Int) / 256))).heap[F]? = _ := blk_set_other (blk_set_other hF1.blk (by omega) _ _) (by omega) _ _
  have hcs : ∀ j, j < 128 → ((W1.setCell ⟨q, m, none⟩ (.int .u8 b)).setCell ⟨q, m + 1, none⟩ (.int .u8 ((b : Int) / 256))).cell? ⟨q, 0 + j, none⟩ = some (.int .u8 (gb (put2 s m b) j)) := fun j hj => by
    have hj0 := HC.out j hj
    have hj1 := HC.out m (by omega)
    have hj2 := HC.out (m + 1) (by omega)
    rw [cell_at HBL.out] at hj0 hj1 hj2
    have z1 := (Array.getElem?_eq_some_iff.1 hj1).1
    have z2 := (Array.getElem?_eq_some_iff.1 hj2).1
    rw [Nat.zero_add, cell_at hbl2, put2, gb_set' _ _ _ _ (by simp; omega), gb_set' _ _ _ _ (by omega)]
    by_cases e1 : j = m + 1
    · subst e1
      rw [if_pos rfl, Array.getElem?_setIfInBounds_self_of_lt (by simpa using z2)]
      congr 2
      omega
    · rw [if_neg e1, Array.getElem?_setIfInBounds_ne (by omega)]
      by_cases e2 : j = m
      · subst e2
        rw [if_pos rfl, Array.getElem?_setIfInBounds_self_of_lt z1]
        congr 2
        omega
      · rw [if_neg e2, Array.getElem?_setIfInBounds_ne (by omega)]
        exact hj0
  have hB2 : Below q w ((W1.setCell ⟨q, m, none⟩ (.int .u8 b)).setCell ⟨q, m + 1, none⟩ (.int .u8 ((b : Int) / 256))) := below_set (below_set HBB.out (Nat.le_refl _)) (Nat.le_refl _)
  clear hfi hci cm fm cm1 fm1 hbl2 hF1 c0 c18 hHeld
  generalize (W1.setCell ⟨q, m, none⟩ (.int .u8 b)).setCell ⟨q, m + 1, none⟩ (.int .u8 ((b : Int) / 256)) = W2 at *
  have c0 : W2.cell? ⟨F, 0, none⟩ = some (.slice (some ⟨g, 0, none⟩) v.length c) := by rw [cell_at hf2]; rfl
  have c18 : W2.cell? ⟨F, 18, none⟩ = some (.int .i64 x.ind) := by rw [cell_at hf2]; rfl
  have hci := hv2.cell x.ind hg2.2
  have hfi := hv2.free x.ind
  have HV2 := Lib.hid hv2
  have HF2 := Lib.hid hf2
  have HB2 := Lib.hid hB2
  have hst' := str_of_u8 W2.drew q 0 128 cp (put2 s m b) (by simp [hsi]) hcs
  clear hv2 hf2 hB2 hcs
  refine region_P (fun w' => w'.cell? ⟨F, 0, none⟩ = some (.slice (some ⟨g, 0, none⟩) v.length c) ∧ w'.cell? ⟨F, 18, none⟩ = some (.int .i64 x.ind) ∧ (convert 62 9 (.slice (some ⟨q, 0, none⟩) 128 cp)).run Try.prog w' = .ok (.string (mk (put2 s m b))) w') [12] (by kernel_rfl) ?_ (fun hHeld => ?_)
  · exact ⟨c0, c18, hst'⟩
  refine wpP_take (i := 0) (oi := ?oi56014) (v := ?v56014) ?hi56014 (by kernel_rfl) (by kernel_rfl) (by kernel_rfl) (by kernel_rfl) ?hQ56014 ?hy56014 (by assumption) ?rest56014
  case hi56014 => (simp only [List.getElem?_toArray, List.getElem?_cons_succ, List.getElem?_cons_zero]; exact rfl)
  case hQ56014 => exact fun _ _ _ h => h
  case hy56014 => (refine Or.inl ⟨by kernel_rfl, ?_⟩; intro w hSw; (try dsimp only at hSw); go_simp; try (with_reducible rfl))
  try simp only [Act.put, List.setIfInBounds_toArray, List.set_cons_zero, List.set_cons_succ]
  refine wpP_take (i := 1) (oi := ?oi56015) (v := ?v56015) ?hi56015 (by kernel_rfl) (by kernel_rfl) (by kernel_rfl) (by kernel_rfl) ?hQ56015 ?hy56015 (by assumption) ?rest56015
  case hi56015 => (simp only [List.getElem?_toArray, List.getElem?_cons_succ, List.getElem?_cons_zero]; exact rfl)
  case hQ56015 => exact fun _ _ _ h => h
  case hy56015 => (refine Or.inl ⟨by kernel_rfl, ?_⟩; intro w hSw; (try dsimp only at hSw); go_simp; try (with_reducible rfl))
  try simp only [Act.put, List.setIfInBounds_toArray, List.set_cons_zero, List.set_cons_succ]
  refine wpP_take (i := 2) (oi := ?oi56016) (v := ?v56016) ?hi56016 (by kernel_rfl) (by kernel_rfl) (by kernel_rfl) (by kernel_rfl) ?hQ56016 ?hy56016 (by assumption) ?rest56016
  case hi56016 => (simp only [List.getElem?_toArray, List.getElem?_cons_succ, List.getElem?_cons_zero]; exact rfl)
  case hQ56016 => exact fun _ _ _ h => h
  case hy56016 => (refine Or.inl ⟨by kernel_rfl, ?_⟩; intro w hSw; (try dsimp only at hSw); go_simp; try (with_reducible rfl))
  try simp only [Act.put, List.setIfInBounds_toArray, List.set_cons_zero, List.set_cons_succ]
  refine wpP_take (i := 3) (oi := ?oi56017) (v := ?v56017) ?hi56017 (by kernel_rfl) (by kernel_rfl) (by kernel_rfl) (by kernel_rfl) ?hQ56017 ?hy56017 (by assumption) ?rest56017
  case hi56017 => (simp only [List.getElem?_toArray, List.getElem?_cons_succ, List.getElem?_cons_zero]; exact rfl)
  case hQ56017 => exact fun _ _ _ h => h
  case hy56017 => (refine Or.inl ⟨by kernel_rfl, ?_⟩; intro w hSw; (try dsimp only at hSw); go_simp; try (with_reducible rfl))
  try simp only [Act.put, List.setIfInBounds_toArray, List.set_cons_zero, List.set_cons_succ]
  refine wpP_take (i := 4) (oi := ?oi56018) (v := ?v56018) ?hi56018 (by kernel_rfl) (by kernel_rfl) (by kernel_rfl) (by kernel_rfl) ?hQ56018 ?hy56018 (by assumption) ?rest56018
  case hi56018 => (simp only [List.getElem?_toArray, List.getElem?_cons_succ, List.getElem?_cons_zero]; exact rfl)
  case hQ56018 => exact fun _ _ _ h => h
  case hy56018 => (refine Or.inl ⟨by kernel_rfl, ?_⟩; intro w hSw; (try dsimp only at hSw); go_simp; try (with_reducible rfl))
  try simp only [Act.put, List.setIfInBounds_toArray, List.set_cons_zero, List.set_cons_succ]
  refine wpP_take (i := 5) (oi := ?oi56019) (v := ?v56019) ?hi56019 (by kernel_rfl) (by kernel_rfl) (by kernel_rfl) (by kernel_rfl) ?hQ56019 ?hy56019 (by assumption) ?rest56019
  case hi56019 => (simp only [List.getElem?_toArray, List.getElem?_cons_succ, List.getElem?_cons_zero]; exact rfl)
  case hQ56019 => exact fun _ _ _ h => h
  case hy56019 => (refine Or.inl ⟨by kernel_rfl, ?_⟩; intro w hSw; (try dsimp only at hSw); go_simp; try (with_reducible rfl))
  try simp only [Act.put, List.setIfInBounds_toArray, List.set_cons_zero, List.set_cons_succ]
  refine wpP_take (i := 6) (oi := ?oi56020) (v := ?v56020) ?hi56020 (by kernel_rfl) (by kernel_rfl) (by kernel_rfl) (by kernel_rfl) ?hQ56020 ?hy56020 (by assumption) ?rest56020
  case hi56020 => (simp only [List.getElem?_toArray, List.getElem?_cons_succ, List.getElem?_cons_zero]; exact rfl)
  case hQ56020 => exact fun _ _ _ h => h
  case hy56020 => (refine Or.inl ⟨by kernel_rfl, ?_⟩; intro w hSw; (try dsimp only at hSw); go_simp; try (with_reducible rfl))
  try simp only [Act.put, List.setIfInBounds_toArray, List.set_cons_zero, List.set_cons_succ]
  refine wpP_take (i := 7) (oi := ?oi56021) (v := ?v56021) ?hi56021 (by kernel_rfl) (by kernel_rfl) (by kernel_rfl) (by kernel_rfl) ?hQ56021 ?hy56021 (by assumption) ?rest56021
  case hi56021 => (simp only [List.getElem?_toArray, List.getElem?_cons_succ, List.getElem?_cons_zero]; exact rfl)
  case hQ56021 => exact fun _ _ _ h => h
  case hy56021 => (refine Or.inl ⟨by kernel_rfl, ?_⟩; intro w hSw; (try dsimp only at hSw); go_simp; try (with_reducible rfl))
  try simp only [Act.put, List.setIfInBounds_toArray, List.set_cons_zero, List.set_cons_succ]
  refine wpP_take (i := 8) (oi := ?oi56022) (v := ?v56022) ?hi56022 (by kernel_rfl) (by kernel_rfl) (by kernel_rfl) (by kernel_rfl) ?hQ56022 ?hy56022 (by assumption) ?rest56022
  case hi56022 => (simp only [List.getElem?_toArray, List.getElem?_cons_succ, List.getElem?_cons_zero]; exact rfl)
  case hQ56022 => exact fun _ _ _ h => h
  case hy56022 => (refine Or.inl ⟨by kernel_rfl, ?_⟩; intro w hSw; (try dsimp only at hSw); go_simp; try (with_reducible rfl))
  try simp only [Act.put, List.setIfInBounds_toArray, List.set_cons_zero, List.set_cons_succ]
  refine wpP_take (i := 9) (oi := ?oi56023) (v := ?v56023) ?hi56023 (by kernel_rfl) (by kernel_rfl) (by kernel_rfl) (by kernel_rfl) ?hQ56023 ?hy56023 (by assumption) ?rest56023
  case hi56023 => (simp only [List.getElem?_toArray, List.getElem?_cons_succ, List.getElem?_cons_zero]; exact rfl)
  case hQ56023 => exact fun _ _ _ h => h
  case hy56023 => (refine Or.inl ⟨by kernel_rfl, ?_⟩; intro w hSw; (try dsimp only at hSw); go_simp; try (with_reducible rfl))
  try simp only [Act.put, List.setIfInBounds_toArray, List.set_cons_zero, List.set_cons_succ]
  refine wpP_take (i := 10) (oi := ?oi56024) (v := ?v56024) ?hi56024 (by kernel_rfl) (by kernel_rfl) (by kernel_rfl) (by kernel_rfl) ?hQ56024 ?hy56024 (by assumption) ?rest56024
  case hi56024 => (simp only [List.getElem?_toArray, List.getElem?_cons_succ, List.getElem?_cons_zero]; exact rfl)
  case hQ56024 => exact fun _ _ _ h => h
  case hy56024 => (refine Or.inl ⟨by kernel_rfl, ?_⟩; intro w hSw; (try dsimp only at hSw); go_simp; try (with_reducible rfl))
  try simp only [Act.put, List.setIfInBounds_toArray, List.set_cons_zero, List.set_cons_succ]
  refine wpP_take (i := 11) (oi := ?oi56025) (v := ?v56025) ?hi56025 (by kernel_rfl) (by kernel_rfl) (by kernel_rfl) (by kernel_rfl) ?hQ56025 ?hy56025 (by assumption) ?rest56025
  case hi56025 => (simp only [List.getElem?_toArray, List.getElem?_cons_succ, List.getElem?_cons_zero]; exact rfl)
  case hQ56025 => exact fun _ _ _ h => h
  case hy56025 => (refine Or.inl ⟨by kernel_rfl, ?_⟩; intro w hSw; (try dsimp only at hSw); go_simp; try (with_reducible rfl))
  try simp only [Act.put, List.setIfInBounds_toArray, List.set_cons_zero, List.set_cons_succ]
  refine wpP_ready (rs := [12]) (by kernel_rfl) (by simp) ?_
  refine AllP.last (o := ?o56026) ?ho56026 (by kernel_rfl) (fun K hK => ?_) AllP.nil
  case ho56026 => (simp only [List.getElem?_toArray, List.getElem?_cons_succ, List.getElem?_cons_zero]; exact rfl)
  go_simp
  refine hK.out _ _ ?_
  clear hK K
  try simp only [Act.put, List.setIfInBounds_toArray, List.set_cons_zero, List.set_cons_succ]
  refine wpP_done (by kernel_rfl) ?_ _
  go_wp2
  refine bodyPost_end (v := .tuple #[]) (by simp [results, Try.results111, go_sem]) rfl ?_
  refine ⟨rfl, ⟨blk_set_other HF2.out HF.out.ne _ _, HV2.out.set x.ind _ hg2.2, by simp, HF.out.ne⟩, fun B h1 h2 => (below_set (HB2.out.mono (by omega)) h2).drew⟩
theorem xname_ok (F g c L I d n : Nat) (v : Vol) (x : Ino) (k b : Nat) (w : World) (hf : FileAt w F g c L I d n v x) (hk : k < 70) (hb : b < 256) (hg : k < 6 ∨ goodN d L x.ind = true) (hs : ∀ j, j < L → (bk v j).length = 128) (hL : L ≤ 223) :
    Calls Try.prog 111 #[.pointer (some ⟨F, 0, none⟩), .int .i64 k, .int .i64 b] w fun e w' => e = .returned (.tuple #[]) ∧ FileAt w' F g c L I d n (nameV d v x k b) (nameX x k b) ∧ ∀ B, B ≤ F → B ≤ g → Below B w w' := by
  by_cases h6 : k < 6
  · rw [nameV, if_pos h6, nameX, if_pos h6]
    exact (xname_near F g c L I d n v x k b w hf h6).mono fun e w' h => ⟨h.1, h.2.1, fun B h1 _ => h.2.2 B h1⟩
  · have hg' := hg.resolve_left h6
    rw [nameV, if_neg h6, nameX, if_neg h6, hf.len, if_pos hg']
    exact xname_far F g c L I d n v x k b w hf (by omega) hk hb hg' hs hL
end Go.Proofs.Ytacdohlhalnioaa

/- Joined: XH5 XH6 XH7 XH8 XH9. -/
import Derived.Test.YtacdohlhalnioaaJA
/- Contract: a far block is placed, behind the block of the numbers (the document's). -/
section
set_option linter.unusedVariables false
set_option linter.unusedSimpArgs false
set_option maxRecDepth 20000
namespace Go.Proofs.Ytacdohlhalnioaa
open Go.RowKit
attribute [local go_sem] Oper.semAt_some
theorem drew_heap (W : World) : W.drew.heap = W.heap := rfl

set_option maxHeartbeats 16000000 in
theorem rplace_two (A : Option Addr) (c : Nat) (v : Vol) (x : Ino) (k i b : Nat) (w : World) (hr : RS w A v) (hv : okV v = true) (hk6 : 6 ≤ k) (hk : k < 70) (h : atN (dataV v) v.length v x k = 0) (hg : goodN (dataV v) v.length x.ind = false) (hi : freeB v = some i) (hb : freeB (tookV v i) = some b) :
    Calls Try.prog 80 #[.slice A v.length c, .agg #[.int .i64 ((x.kind : Nat) : Int), .int .i64 ((x.links : Nat) : Int), .int .i64 ((x.owner : Nat) : Int), .int .i64 ((x.size : Nat) : Int), .int .i64 ((x.d0 : Nat) : Int), .int .i64 ((x.d1 : Nat) : Int), .int .i64 ((x.d2 : Nat) : Int), .int .i64 ((x.d3 : Nat) : Int), .int .i64 ((x.d4 : Nat) : Int), .int .i64 ((x.d5 : Nat) : Int), .int .i64 ((x.ind : Nat) : Int), .int .i64 ((x.ext : Nat) : Int)], .int .i64 k] w fun e w' => ∃ g c', e = .returned (.agg #[.slice (some ⟨g, 0, none⟩) v.length c', .int .i64 (((x.setI i).kind : Nat) : Int), .int .i64 (((x.setI i).links : Nat) : Int), .int .i64 (((x.setI i).owner : Nat) : Int), .int .i64 (((x.setI i).size : Nat) : Int), .int .i64 (((x.setI i).d0 : Nat) : Int), .int .i64 (((x.setI i).d1 : Nat) : Int), .int .i64 (((x.setI i).d2 : Nat) : Int), .int .i64 (((x.setI i).d3 : Nat) : Int), .int .i64 (((x.setI i).d4 : Nat) : Int), .int .i64 (((x.setI i).d5 : Nat) : Int), .int .i64 (((x.setI i).ind : Nat) : Int), .int .i64 (((x.setI i).ext : Nat) : Int), .int .i64 b, .int .i64 0]) ∧ VS w' g ((tookV (tookV v i) b).set i (put2 (bk (tookV (tookV v i) b) i) (2 * (k - 6)) b)) ∧ w.heap.size ≤ g ∧ Below w.heap.size w w' := by
  obtain ⟨hB0, hq0, hq1⟩ := place_start x w _ rfl
  have HB0 := Lib.hid hB0
  have HQ0 := Lib.hid hq0
  have HQ1 := Lib.hid hq1
  obtain ⟨x0, x1, x2, x3, x4, x5, x6, x7, x8, x9, x10, x11⟩ := cells12 hq0
  have HR := Lib.hid hr
  have H := okV_iff.1 hv
  have hd0 : 0 < dataV v := by rw [dataV]; omega
  have hhi := H.hi
  have hdat := Lib.hid (fun w hr => rdata_ok A c v w hr hv)
  have hat := Lib.hid (fun w hr => rat_ok A c (dataV v) v.length v x k w hr rfl hk hd0 H.size)
  rw [h] at hat
  obtain ⟨f1, hgl, _⟩ := freeB_some hi
  have hkt1 := kept_tookV hv f1 hgl
  obtain ⟨f3, f4, _⟩ := freeB_some hb
  have hkt2 := kept_tookV hkt1.ok f3 f4
  rw [hkt1.len] at f4
  have hlt2 := hkt2.len.trans hkt1.len
  have htk := Lib.hid (fun w hr => rtake19_ok A c v x i w hr hv hi)
  have htk2 := fun A' c' w hr => rtake19_ok A' c' (tookV v i) (x.setI i) b w hr hkt1.ok hb
  rw [hkt1.len] at htk2
  have HTK2 := Lib.hid htk2
  have hki : ¬ ((k : Int) < 6) := by omega
  have hgz := goodZ_no hg
  have HGZ := Lib.hid hgz
  have hi1 : (i : Int) < (v.length : Nat) := by omega
  have hsb := (okV_iff.1 hkt2.ok).size i (by rw [hlt2]; exact hgl)
  obtain ⟨j, hj⟩ : ∃ j, k - 6 = j := ⟨_, rfl⟩
  have hj1 : (k : Int) - 6 = (j : Int) := by omega
  have hwj : IntKind.i64.wrap (j : Int) = (j : Int) := by simp [IntKind.wrap, IntKind.bits, IntKind.signed]; omega
  rw [hj]
  obtain ⟨p, hp⟩ : ∃ p, 2 * j = p := ⟨_, rfl⟩
  have hp1 : (2 : Int) * (j : Int) = (p : Int) := by omega
  have hwp : IntKind.i64.wrap (p : Int) = (p : Int) := by simp [IntKind.wrap, IntKind.bits, IntKind.signed]; omega
  rw [hp]
  have HT1 := Lib.hid hkt1.len
  have HT := Lib.hid hlt2
  have hb223 : b < 65536 := by omega
  have hwi := fun A' c' (s : Blk) w hr => rwith19_ok A' c' (tookV (tookV v i) b) i s w v.length hlt2 hr (by rw [hlt2]; exact hgl)
  clear hr hv h H hB0 hq0 hq1 hb hi hkt1 hkt2 hlt2 hg hgz f1 f3 htk2
  generalize tookV (tookV v i) b = V at *
  generalize tookV v i = V1 at *
  obtain ⟨sb, hsb'⟩ : ∃ sb, bk V i = sb := ⟨_, rfl⟩
  rw [hsb'] at hsb ⊢
  have HSB := Lib.hid hsb'
  have HWI := Lib.hid (fun A' c' w hr => hwi A' c' (put2 sb p b) w hr)
  clear hsb' hwi
  generalize dataV v = d at *
  go_enter Try.func80, Try.ntmps80
  go_upto_region 13 with (first
    | (go_at_call 56; refine (hdat.out _ (HR.out.below HB0.out)).mono ?_; rintro e w1 ⟨rfl, hb1⟩; have HB1 := Lib.hid (below_keep HB0.out (Nat.le_refl _) hb1); have hq0 := blk_keep HQ0.out hb1; obtain ⟨x0, x1, x2, x3, x4, x5, x6, x7, x8, x9, x10, x11⟩ := cells12 hq0; have HP0 := Lib.hid hq0; have HP1 := Lib.hid (blk_keep HQ1.out hb1); clear hb1 hq0)
    | (go_at_call 59; refine (hat.out _ (HR.out.below HB1.out)).mono ?_; rintro e w2 ⟨rfl, hb2⟩; have HB2 := Lib.hid (below_keep HB1.out (Nat.le_refl _) hb2); have hq0 := blk_keep HP0.out hb2; have hq1 := blk_keep HP1.out hb2; obtain ⟨x0, x1, x2, x3, x4, x5, x6, x7, x8, x9, x10, x11⟩ := cells12 hq0; obtain ⟨z0, z1, z2, z3, z4, z5, z6, z7, z8, z9, z10, z11, z12, z13, z14⟩ := cells15 hq1; obtain ⟨f0, f1, f2, f3, f4, f5, f6, f7, f8, f9, f10, f11, f12, f13, f14⟩ := frees15 hq1; have HU0 := Lib.hid hq0; have HU1 := Lib.hid hq1; clear hb2 hq0 hq1)
    | (go_at_call 64; refine (rgood_ok A c v.length d x.ind _ (by omega)).mono ?_; rw [HGZ.out]; rintro e w8 ⟨rfl, rfl⟩)
    | (go_at_call 112; refine (htk.out _ (HR.out.below HB2.out)).mono ?_; rintro e w3 ⟨g3, c3, rfl, hg3, hgs3, hb3⟩; have s2 := HB2.out.size; have HB3 := Lib.hid hb3; have HG3 := Lib.hid hg3; obtain ⟨z0, z1, z2, z3, z4, z5, z6, z7, z8, z9, z10, z11, z12, z13, z14⟩ := cells15 (blk_new w3 (.cells #[.slice (some ⟨g3, 0, none⟩) v.length c3, .int .i64 ((x.kind : Nat) : Int), .int .i64 ((x.links : Nat) : Int), .int .i64 ((x.owner : Nat) : Int), .int .i64 ((x.size : Nat) : Int), .int .i64 ((x.d0 : Nat) : Int), .int .i64 ((x.d1 : Nat) : Int), .int .i64 ((x.d2 : Nat) : Int), .int .i64 ((x.d3 : Nat) : Int), .int .i64 ((x.d4 : Nat) : Int), .int .i64 ((x.d5 : Nat) : Int), .int .i64 ((x.ind : Nat) : Int), .int .i64 ((x.ext : Nat) : Int), .int .i64 i, .int .i64 0] 114)); clear hb3 hg3))
  clear z0 z1 z2 z3 z4 z5 z6 z7 z8 z9 z10 z11 z12 z13 z14
  have s3 := HB3.out.size
  have su := blk_lt HU1.out
  have hb4 := HB3.out.alloc HB3.out.size (.cells #[.slice (some ⟨g3, 0, none⟩) v.length c3, .int .i64 ((x.kind : Nat) : Int), .int .i64 ((x.links : Nat) : Int), .int .i64 ((x.owner : Nat) : Int), .int .i64 ((x.size : Nat) : Int), .int .i64 ((x.d0 : Nat) : Int), .int .i64 ((x.d1 : Nat) : Int), .int .i64 ((x.d2 : Nat) : Int), .int .i64 ((x.d3 : Nat) : Int), .int .i64 ((x.d4 : Nat) : Int), .int .i64 ((x.d5 : Nat) : Int), .int .i64 ((x.ind : Nat) : Int), .int .i64 ((x.ext : Nat) : Int), .int .i64 i, .int .i64 0] 114)
  have hq8 := blk_new w3 (.cells #[.slice (some ⟨g3, 0, none⟩) v.length c3, .int .i64 ((x.kind : Nat) : Int), .int .i64 ((x.links : Nat) : Int), .int .i64 ((x.owner : Nat) : Int), .int .i64 ((x.size : Nat) : Int), .int .i64 ((x.d0 : Nat) : Int), .int .i64 ((x.d1 : Nat) : Int), .int .i64 ((x.d2 : Nat) : Int), .int .i64 ((x.d3 : Nat) : Int), .int .i64 ((x.d4 : Nat) : Int), .int .i64 ((x.d5 : Nat) : Int), .int .i64 ((x.ind : Nat) : Int), .int .i64 ((x.ext : Nat) : Int), .int .i64 i, .int .i64 0] 114)
  have hg4 : VS (w3.alloc (.cells #[.slice (some ⟨g3, 0, none⟩) v.length c3, .int .i64 ((x.kind : Nat) : Int), .int .i64 ((x.links : Nat) : Int), .int .i64 ((x.owner : Nat) : Int), .int .i64 ((x.size : Nat) : Int), .int .i64 ((x.d0 : Nat) : Int), .int .i64 ((x.d1 : Nat) : Int), .int .i64 ((x.d2 : Nat) : Int), .int .i64 ((x.d3 : Nat) : Int), .int .i64 ((x.d4 : Nat) : Int), .int .i64 ((x.d5 : Nat) : Int), .int .i64 ((x.ind : Nat) : Int), .int .i64 ((x.ext : Nat) : Int), .int .i64 i, .int .i64 0] 114)) g3 V1 := HG3.out.keep ((Below.refl _ _).alloc (Nat.le_refl _) _)
  have sg := HG3.out.lt
  generalize w3.alloc (.cells #[.slice (some ⟨g3, 0, none⟩) v.length c3, .int .i64 ((x.kind : Nat) : Int), .int .i64 ((x.links : Nat) : Int), .int .i64 ((x.owner : Nat) : Int), .int .i64 ((x.size : Nat) : Int), .int .i64 ((x.d0 : Nat) : Int), .int .i64 ((x.d1 : Nat) : Int), .int .i64 ((x.d2 : Nat) : Int), .int .i64 ((x.d3 : Nat) : Int), .int .i64 ((x.d4 : Nat) : Int), .int .i64 ((x.d5 : Nat) : Int), .int .i64 ((x.ind : Nat) : Int), .int .i64 ((x.ext : Nat) : Int), .int .i64 i, .int .i64 0] 114) = W3 at *
  generalize w3.heap.size = q8 at *
  obtain ⟨j0, j1_, j2, j3, j4, j5, j6, j7, j8, j9, j10, j11, j12, j13, j14⟩ := cells15 hq8
  have hx4 := blk_keep HU0.out hb4
  obtain ⟨x0, x1, x2, x3, x4, x5, x6, x7, x8, x9, x10, x11⟩ := cells12 hx4
  obtain ⟨fx0, fx1, fx2, fx3, fx4, fx5, fx6, fx7, fx8, fx9, fx10, fx11⟩ := frees12 hx4
  have HX4 := Lib.hid hx4
  have HQ8 := Lib.hid hq8
  have HG4 := Lib.hid hg4
  have HU3 := Lib.hid (blk_keep HU1.out hb4)
  have HB4' := Lib.hid (below_keep HB2.out (Nat.le_refl _) hb4)
  have s4' := hb4.size
  clear hq8 hb4 hg4 hx4
  refine region_P (fun w' => w'.cell? ⟨q8, 0, none⟩ = some (.slice (some ⟨g3, 0, none⟩) v.length c3) ∧ w'.cell? ⟨q8, 1, none⟩ = some (.int .i64 ((x.kind : Nat) : Int)) ∧ w'.cell? ⟨q8, 2, none⟩ = some (.int .i64 ((x.links : Nat) : Int)) ∧ w'.cell? ⟨q8, 3, none⟩ = some (.int .i64 ((x.owner : Nat) : Int)) ∧ w'.cell? ⟨q8, 4, none⟩ = some (.int .i64 ((x.size : Nat) : Int)) ∧ w'.cell? ⟨q8, 5, none⟩ = some (.int .i64 ((x.d0 : Nat) : Int)) ∧ w'.cell? ⟨q8, 6, none⟩ = some (.int .i64 ((x.d1 : Nat) : Int)) ∧ w'.cell? ⟨q8, 7, none⟩ = some (.int .i64 ((x.d2 : Nat) : Int)) ∧ w'.cell? ⟨q8, 8, none⟩ = some (.int .i64 ((x.d3 : Nat) : Int)) ∧ w'.cell? ⟨q8, 9, none⟩ = some (.int .i64 ((x.d4 : Nat) : Int)) ∧ w'.cell? ⟨q8, 10, none⟩ = some (.int .i64 ((x.d5 : Nat) : Int)) ∧ w'.cell? ⟨q8, 11, none⟩ = some (.int .i64 ((x.ind : Nat) : Int)) ∧ w'.cell? ⟨q8, 12, none⟩ = some (.int .i64 ((x.ext : Nat) : Int))) [5] (by kernel_rfl) ?_ (fun hHeld => ?_)
  · exact ⟨j0, j1_, j2, j3, j4, j5, j6, j7, j8, j9, j10, j11, j12⟩
  refine wpP_take (i := 0) (oi := ?oi295001) (v := ?v295001) ?hi295001 (by kernel_rfl) (by kernel_rfl) (by kernel_rfl) (by kernel_rfl) ?hQ295001 ?hy295001 (by assumption) ?rest295001
  case hi295001 => (simp only [List.getElem?_toArray, List.getElem?_cons_succ, List.getElem?_cons_zero]; exact rfl)
  case hQ295001 => exact fun _ _ _ h => h
  case hy295001 => (refine Or.inl ⟨by kernel_rfl, ?_⟩; intro w hSw; (try dsimp only at hSw); go_simp; try (with_reducible rfl))
  try simp only [Act.put, List.setIfInBounds_toArray, List.set_cons_zero, List.set_cons_succ]
  refine wpP_take (i := 1) (oi := ?oi295002) (v := ?v295002) ?hi295002 (by kernel_rfl) (by kernel_rfl) (by kernel_rfl) (by kernel_rfl) ?hQ295002 ?hy295002 (by assumption) ?rest295002
  case hi295002 => (simp only [List.getElem?_toArray, List.getElem?_cons_succ, List.getElem?_cons_zero]; exact rfl)
  case hQ295002 => exact fun _ _ _ h => h
  case hy295002 => (refine Or.inl ⟨by kernel_rfl, ?_⟩; intro w hSw; (try dsimp only at hSw); go_simp; try (with_reducible rfl))
  try simp only [Act.put, List.setIfInBounds_toArray, List.set_cons_zero, List.set_cons_succ]
  refine wpP_take (i := 2) (oi := ?oi295003) (v := ?v295003) ?hi295003 (by kernel_rfl) (by kernel_rfl) (by kernel_rfl) (by kernel_rfl) ?hQ295003 ?hy295003 (by assumption) ?rest295003
  case hi295003 => (simp only [List.getElem?_toArray, List.getElem?_cons_succ, List.getElem?_cons_zero]; exact rfl)
  case hQ295003 => exact fun _ _ _ h => h
  case hy295003 => (refine Or.inl ⟨by kernel_rfl, ?_⟩; intro w hSw; (try dsimp only at hSw); go_simp; try (with_reducible rfl))
  try simp only [Act.put, List.setIfInBounds_toArray, List.set_cons_zero, List.set_cons_succ]
  refine wpP_take (i := 3) (oi := ?oi295004) (v := ?v295004) ?hi295004 (by kernel_rfl) (by kernel_rfl) (by kernel_rfl) (by kernel_rfl) ?hQ295004 ?hy295004 (by assumption) ?rest295004
  case hi295004 => (simp only [List.getElem?_toArray, List.getElem?_cons_succ, List.getElem?_cons_zero]; exact rfl)
  case hQ295004 => exact fun _ _ _ h => h
  case hy295004 => (refine Or.inl ⟨by kernel_rfl, ?_⟩; intro w hSw; (try dsimp only at hSw); go_simp; try (with_reducible rfl))
  try simp only [Act.put, List.setIfInBounds_toArray, List.set_cons_zero, List.set_cons_succ]
  refine wpP_take (i := 4) (oi := ?oi295005) (v := ?v295005) ?hi295005 (by kernel_rfl) (by kernel_rfl) (by kernel_rfl) (by kernel_rfl) ?hQ295005 ?hy295005 (by assumption) ?rest295005
  case hi295005 => (simp only [List.getElem?_toArray, List.getElem?_cons_succ, List.getElem?_cons_zero]; exact rfl)
  case hQ295005 => exact fun _ _ _ h => h
  case hy295005 => (refine Or.inl ⟨by kernel_rfl, ?_⟩; intro w hSw; (try dsimp only at hSw); go_simp; try (with_reducible rfl))
  try simp only [Act.put, List.setIfInBounds_toArray, List.set_cons_zero, List.set_cons_succ]
  refine wpP_ready (rs := [5]) (by kernel_rfl) (by simp) ?_
  refine AllP.last (o := ?o295006) ?ho295006 (by kernel_rfl) (fun K hK => ?_) AllP.nil
  case ho295006 => (simp only [List.getElem?_toArray, List.getElem?_cons_succ, List.getElem?_cons_zero]; exact rfl)
  go_simp
  refine hK.out _ _ ?_
  clear hK K
  try simp only [Act.put, List.setIfInBounds_toArray, List.set_cons_zero, List.set_cons_succ]
  refine wpP_done (by kernel_rfl) ?_ _
  have hxs : ((((((((((((W3.setCell ⟨w.heap.size, 0, none⟩ (.int .i64 ((x.kind : Nat) : Int))).setCell ⟨w.heap.size, 1, none⟩ (.int .i64 ((x.links : Nat) : Int))).setCell ⟨w.heap.size, 2, none⟩ (.int .i64 ((x.owner : Nat) : Int))).setCell ⟨w.heap.size, 3, none⟩ (.int .i64 ((x.size : Nat) : Int))).setCell ⟨w.heap.size, 4, none⟩ (.int .i64 ((x.d0 : Nat) : Int))).setCell ⟨w.heap.size, 5, none⟩ (.int .i64 ((x.d1 : Nat) : Int))).setCell ⟨w.heap.size, 6, none⟩ (.int .i64 ((x.d2 : Nat) : Int))).setCell ⟨w.heap.size, 7, none⟩ (.int .i64 ((x.d3 : Nat) : Int))).setCell ⟨w.heap.size, 8, none⟩ (.int .i64 ((x.d4 : Nat) : Int))).setCell ⟨w.heap.size, 9, none⟩ (.int .i64 ((x.d5 : Nat) : Int))).setCell ⟨w.heap.size, 10, none⟩ (.int .i64 ((x.ind : Nat) : Int))).setCell ⟨w.heap.size, 11, none⟩ (.int .i64 ((x.ext : Nat) : Int))).drew.heap[w.heap.size]? = some (.cells #[.int .i64 ((x.kind : Nat) : Int), .int .i64 ((x.links : Nat) : Int), .int .i64 ((x.owner : Nat) : Int), .int .i64 ((x.size : Nat) : Int), .int .i64 ((x.d0 : Nat) : Int), .int .i64 ((x.d1 : Nat) : Int), .int .i64 ((x.d2 : Nat) : Int), .int .i64 ((x.d3 : Nat) : Int), .int .i64 ((x.d4 : Nat) : Int), .int .i64 ((x.d5 : Nat) : Int), .int .i64 ((x.ind : Nat) : Int), .int .i64 ((x.ext : Nat) : Int)] 45 (0, 0)) := by rw [drew_heap]; exact blk_set12 HX4.out
  have hq8s : ((((((((((((W3.setCell ⟨w.heap.size, 0, none⟩ (.int .i64 ((x.kind : Nat) : Int))).setCell ⟨w.heap.size, 1, none⟩ (.int .i64 ((x.links : Nat) : Int))).setCell ⟨w.heap.size, 2, none⟩ (.int .i64 ((x.owner : Nat) : Int))).setCell ⟨w.heap.size, 3, none⟩ (.int .i64 ((x.size : Nat) : Int))).setCell ⟨w.heap.size, 4, none⟩ (.int .i64 ((x.d0 : Nat) : Int))).setCell ⟨w.heap.size, 5, none⟩ (.int .i64 ((x.d1 : Nat) : Int))).setCell ⟨w.heap.size, 6, none⟩ (.int .i64 ((x.d2 : Nat) : Int))).setCell ⟨w.heap.size, 7, none⟩ (.int .i64 ((x.d3 : Nat) : Int))).setCell ⟨w.heap.size, 8, none⟩ (.int .i64 ((x.d4 : Nat) : Int))).setCell ⟨w.heap.size, 9, none⟩ (.int .i64 ((x.d5 : Nat) : Int))).setCell ⟨w.heap.size, 10, none⟩ (.int .i64 ((x.ind : Nat) : Int))).setCell ⟨w.heap.size, 11, none⟩ (.int .i64 ((x.ext : Nat) : Int))).drew.heap[q8]? = some (.cells #[.slice (some ⟨g3, 0, none⟩) v.length c3, .int .i64 ((x.kind : Nat) : Int), .int .i64 ((x.links : Nat) : Int), .int .i64 ((x.owner : Nat) : Int), .int .i64 ((x.size : Nat) : Int), .int .i64 ((x.d0 : Nat) : Int), .int .i64 ((x.d1 : Nat) : Int), .int .i64 ((x.d2 : Nat) : Int), .int .i64 ((x.d3 : Nat) : Int), .int .i64 ((x.d4 : Nat) : Int), .int .i64 ((x.d5 : Nat) : Int), .int .i64 ((x.ind : Nat) : Int), .int .i64 ((x.ext : Nat) : Int), .int .i64 i, .int .i64 0] 114 (0, 0)) := by rw [drew_heap]; exact heap_set12 HQ8.out (show q8 ≠ w.heap.size by omega)
  have hu3s : ((((((((((((W3.setCell ⟨w.heap.size, 0, none⟩ (.int .i64 ((x.kind : Nat) : Int))).setCell ⟨w.heap.size, 1, none⟩ (.int .i64 ((x.links : Nat) : Int))).setCell ⟨w.heap.size, 2, none⟩ (.int .i64 ((x.owner : Nat) : Int))).setCell ⟨w.heap.size, 3, none⟩ (.int .i64 ((x.size : Nat) : Int))).setCell ⟨w.heap.size, 4, none⟩ (.int .i64 ((x.d0 : Nat) : Int))).setCell ⟨w.heap.size, 5, none⟩ (.int .i64 ((x.d1 : Nat) : Int))).setCell ⟨w.heap.size, 6, none⟩ (.int .i64 ((x.d2 : Nat) : Int))).setCell ⟨w.heap.size, 7, none⟩ (.int .i64 ((x.d3 : Nat) : Int))).setCell ⟨w.heap.size, 8, none⟩ (.int .i64 ((x.d4 : Nat) : Int))).setCell ⟨w.heap.size, 9, none⟩ (.int .i64 ((x.d5 : Nat) : Int))).setCell ⟨w.heap.size, 10, none⟩ (.int .i64 ((x.ind : Nat) : Int))).setCell ⟨w.heap.size, 11, none⟩ (.int .i64 ((x.ext : Nat) : Int))).drew.heap[w.heap.size + 1]? = some (.cells zeroP 114 (0, 0)) := by rw [drew_heap]; exact heap_set12 HU3.out (show w.heap.size + 1 ≠ w.heap.size by omega)
  have hb4s : Below w.heap.size w ((((((((((((W3.setCell ⟨w.heap.size, 0, none⟩ (.int .i64 ((x.kind : Nat) : Int))).setCell ⟨w.heap.size, 1, none⟩ (.int .i64 ((x.links : Nat) : Int))).setCell ⟨w.heap.size, 2, none⟩ (.int .i64 ((x.owner : Nat) : Int))).setCell ⟨w.heap.size, 3, none⟩ (.int .i64 ((x.size : Nat) : Int))).setCell ⟨w.heap.size, 4, none⟩ (.int .i64 ((x.d0 : Nat) : Int))).setCell ⟨w.heap.size, 5, none⟩ (.int .i64 ((x.d1 : Nat) : Int))).setCell ⟨w.heap.size, 6, none⟩ (.int .i64 ((x.d2 : Nat) : Int))).setCell ⟨w.heap.size, 7, none⟩ (.int .i64 ((x.d3 : Nat) : Int))).setCell ⟨w.heap.size, 8, none⟩ (.int .i64 ((x.d4 : Nat) : Int))).setCell ⟨w.heap.size, 9, none⟩ (.int .i64 ((x.d5 : Nat) : Int))).setCell ⟨w.heap.size, 10, none⟩ (.int .i64 ((x.ind : Nat) : Int))).setCell ⟨w.heap.size, 11, none⟩ (.int .i64 ((x.ext : Nat) : Int))).drew := (below_set12 HB4'.out (show w.heap.size ≤ w.heap.size from Nat.le_refl _)).drew
  have hg4s : VS ((((((((((((W3.setCell ⟨w.heap.size, 0, none⟩ (.int .i64 ((x.kind : Nat) : Int))).setCell ⟨w.heap.size, 1, none⟩ (.int .i64 ((x.links : Nat) : Int))).setCell ⟨w.heap.size, 2, none⟩ (.int .i64 ((x.owner : Nat) : Int))).setCell ⟨w.heap.size, 3, none⟩ (.int .i64 ((x.size : Nat) : Int))).setCell ⟨w.heap.size, 4, none⟩ (.int .i64 ((x.d0 : Nat) : Int))).setCell ⟨w.heap.size, 5, none⟩ (.int .i64 ((x.d1 : Nat) : Int))).setCell ⟨w.heap.size, 6, none⟩ (.int .i64 ((x.d2 : Nat) : Int))).setCell ⟨w.heap.size, 7, none⟩ (.int .i64 ((x.d3 : Nat) : Int))).setCell ⟨w.heap.size, 8, none⟩ (.int .i64 ((x.d4 : Nat) : Int))).setCell ⟨w.heap.size, 9, none⟩ (.int .i64 ((x.d5 : Nat) : Int))).setCell ⟨w.heap.size, 10, none⟩ (.int .i64 ((x.ind : Nat) : Int))).setCell ⟨w.heap.size, 11, none⟩ (.int .i64 ((x.ext : Nat) : Int))).drew g3 V1 := by
    obtain ⟨cur, hg, hc⟩ := HG4.out
    exact ⟨cur, by rw [drew_heap]; exact heap_set12 hg (show g3 ≠ w.heap.size by omega), hc⟩
  have hss : ((((((((((((W3.setCell ⟨w.heap.size, 0, none⟩ (.int .i64 ((x.kind : Nat) : Int))).setCell ⟨w.heap.size, 1, none⟩ (.int .i64 ((x.links : Nat) : Int))).setCell ⟨w.heap.size, 2, none⟩ (.int .i64 ((x.owner : Nat) : Int))).setCell ⟨w.heap.size, 3, none⟩ (.int .i64 ((x.size : Nat) : Int))).setCell ⟨w.heap.size, 4, none⟩ (.int .i64 ((x.d0 : Nat) : Int))).setCell ⟨w.heap.size, 5, none⟩ (.int .i64 ((x.d1 : Nat) : Int))).setCell ⟨w.heap.size, 6, none⟩ (.int .i64 ((x.d2 : Nat) : Int))).setCell ⟨w.heap.size, 7, none⟩ (.int .i64 ((x.d3 : Nat) : Int))).setCell ⟨w.heap.size, 8, none⟩ (.int .i64 ((x.d4 : Nat) : Int))).setCell ⟨w.heap.size, 9, none⟩ (.int .i64 ((x.d5 : Nat) : Int))).setCell ⟨w.heap.size, 10, none⟩ (.int .i64 ((x.ind : Nat) : Int))).setCell ⟨w.heap.size, 11, none⟩ (.int .i64 ((x.ext : Nat) : Int))).drew.heap.size = W3.heap.size := by
    rw [drew_heap]
    simp only [World.size_setCell]
  have sq8 := blk_lt HQ8.out
  clear x0 x1 x2 x3 x4 x5 x6 x7 x8 x9 x10 x11 fx0 fx1 fx2 fx3 fx4 fx5 fx6 fx7 fx8 fx9 fx10 fx11 j0 j1_ j2 j3 j4 j5 j6 j7 j8 j9 j10 j11 j12 j13 j14 hHeld
  generalize ((((((((((((W3.setCell ⟨w.heap.size, 0, none⟩ (.int .i64 ((x.kind : Nat) : Int))).setCell ⟨w.heap.size, 1, none⟩ (.int .i64 ((x.links : Nat) : Int))).setCell ⟨w.heap.size, 2, none⟩ (.int .i64 ((x.owner : Nat) : Int))).setCell ⟨w.heap.size, 3, none⟩ (.int .i64 ((x.size : Nat) : Int))).setCell ⟨w.heap.size, 4, none⟩ (.int .i64 ((x.d0 : Nat) : Int))).setCell ⟨w.heap.size, 5, none⟩ (.int .i64 ((x.d1 : Nat) : Int))).setCell ⟨w.heap.size, 6, none⟩ (.int .i64 ((x.d2 : Nat) : Int))).setCell ⟨w.heap.size, 7, none⟩ (.int .i64 ((x.d3 : Nat) : Int))).setCell ⟨w.heap.size, 8, none⟩ (.int .i64 ((x.d4 : Nat) : Int))).setCell ⟨w.heap.size, 9, none⟩ (.int .i64 ((x.d5 : Nat) : Int))).setCell ⟨w.heap.size, 10, none⟩ (.int .i64 ((x.ind : Nat) : Int))).setCell ⟨w.heap.size, 11, none⟩ (.int .i64 ((x.ext : Nat) : Int))).drew = W5 at *
  obtain ⟨j0, j1_, j2, j3, j4, j5, j6, j7, j8, j9, j10, j11, j12, j13, j14⟩ := cells15 hq8s
  have i13 := j13
  have f10 := free_of hxs 10
  have c10 : W5.cell? ⟨w.heap.size, 10, none⟩ = some (.int .i64 x.ind) := by rw [cell_at hxs]; rfl
  have hx6 : (W5.setCell ⟨w.heap.size, 10, none⟩ (.int .i64 i)).heap[w.heap.size]? = some (.cells #[.int .i64 (((x.setI i).kind : Nat) : Int), .int .i64 (((x.setI i).links : Nat) : Int), .int .i64 (((x.setI i).owner : Nat) : Int), .int .i64 (((x.setI i).size : Nat) : Int), .int .i64 (((x.setI i).d0 : Nat) : Int), .int .i64 (((x.setI i).d1 : Nat) : Int), .int .i64 (((x.setI i).d2 : Nat) : Int), .int .i64 (((x.setI i).d3 : Nat) : Int), .int .i64 (((x.setI i).d4 : Nat) : Int), .int .i64 (((x.setI i).d5 : Nat) : Int), .int .i64 (((x.setI i).ind : Nat) : Int), .int .i64 (((x.setI i).ext : Nat) : Int)] 45 (0, 0)) := blk_set hxs 10 (.int .i64 i)
  have hu6 := blk_set_other hu3s (show w.heap.size + 1 ≠ w.heap.size by omega) 10 (.int .i64 i)
  have hb6 := below_set hb4s (show w.heap.size ≤ w.heap.size from Nat.le_refl _) (i := 10) (u := .int .i64 i)
  have hg6 := hg4s.other (show g3 ≠ w.heap.size by omega) (i := 10) (u := .int .i64 i)
  have hs6 : (W5.setCell ⟨w.heap.size, 10, none⟩ (.int .i64 i)).heap.size = W5.heap.size := by simp
  obtain ⟨x0, x1, x2, x3, x4, x5, x6, x7, x8, x9, x10, x11⟩ := cells12 hx6
  have HU0 := Lib.hid hx6
  have HU1 := Lib.hid hu6
  have HB6 := Lib.hid hb6
  have HRV6 := Lib.hid (hg6.rs (by rw [HT1.out]; omega))
  clear j0 j1_ j2 j3 j4 j5 j6 j7 j8 j9 j10 j11 j12 j13 j14 hxs hq8s hu3s hb4s hg4s hx6 hu6 hb6 hg6
  go_upto_region 18 with (go_at_call 112; refine (HTK2.out _ _ _ HRV6.out).mono ?_; rintro e w3 ⟨g3, c3, rfl, hg3, hgs3, hb3⟩; have HB3 := Lib.hid hb3; have HG3 := Lib.hid hg3; obtain ⟨z0, z1, z2, z3, z4, z5, z6, z7, z8, z9, z10, z11, z12, z13, z14⟩ := cells15 (blk_new w3 (.cells #[.slice (some ⟨g3, 0, none⟩) v.length c3, .int .i64 (((x.setI i).kind : Nat) : Int), .int .i64 (((x.setI i).links : Nat) : Int), .int .i64 (((x.setI i).owner : Nat) : Int), .int .i64 (((x.setI i).size : Nat) : Int), .int .i64 (((x.setI i).d0 : Nat) : Int), .int .i64 (((x.setI i).d1 : Nat) : Int), .int .i64 (((x.setI i).d2 : Nat) : Int), .int .i64 (((x.setI i).d3 : Nat) : Int), .int .i64 (((x.setI i).d4 : Nat) : Int), .int .i64 (((x.setI i).d5 : Nat) : Int), .int .i64 (((x.setI i).ind : Nat) : Int), .int .i64 (((x.setI i).ext : Nat) : Int), .int .i64 b, .int .i64 0] 114)); clear hb3 hg3)
  clear z0 z1 z2 z3 z4 z5 z6 z7 z8 z9 z10 z11 z12 z13 z14
  have s3 := HB3.out.size
  have su := blk_lt HU1.out
  have hb4 := HB3.out.alloc HB3.out.size (.cells #[.slice (some ⟨g3, 0, none⟩) v.length c3, .int .i64 (((x.setI i).kind : Nat) : Int), .int .i64 (((x.setI i).links : Nat) : Int), .int .i64 (((x.setI i).owner : Nat) : Int), .int .i64 (((x.setI i).size : Nat) : Int), .int .i64 (((x.setI i).d0 : Nat) : Int), .int .i64 (((x.setI i).d1 : Nat) : Int), .int .i64 (((x.setI i).d2 : Nat) : Int), .int .i64 (((x.setI i).d3 : Nat) : Int), .int .i64 (((x.setI i).d4 : Nat) : Int), .int .i64 (((x.setI i).d5 : Nat) : Int), .int .i64 (((x.setI i).ind : Nat) : Int), .int .i64 (((x.setI i).ext : Nat) : Int), .int .i64 b, .int .i64 0] 114)
  have hq9 := blk_new w3 (.cells #[.slice (some ⟨g3, 0, none⟩) v.length c3, .int .i64 (((x.setI i).kind : Nat) : Int), .int .i64 (((x.setI i).links : Nat) : Int), .int .i64 (((x.setI i).owner : Nat) : Int), .int .i64 (((x.setI i).size : Nat) : Int), .int .i64 (((x.setI i).d0 : Nat) : Int), .int .i64 (((x.setI i).d1 : Nat) : Int), .int .i64 (((x.setI i).d2 : Nat) : Int), .int .i64 (((x.setI i).d3 : Nat) : Int), .int .i64 (((x.setI i).d4 : Nat) : Int), .int .i64 (((x.setI i).d5 : Nat) : Int), .int .i64 (((x.setI i).ind : Nat) : Int), .int .i64 (((x.setI i).ext : Nat) : Int), .int .i64 b, .int .i64 0] 114)
  have hg4 : VS (w3.alloc (.cells #[.slice (some ⟨g3, 0, none⟩) v.length c3, .int .i64 (((x.setI i).kind : Nat) : Int), .int .i64 (((x.setI i).links : Nat) : Int), .int .i64 (((x.setI i).owner : Nat) : Int), .int .i64 (((x.setI i).size : Nat) : Int), .int .i64 (((x.setI i).d0 : Nat) : Int), .int .i64 (((x.setI i).d1 : Nat) : Int), .int .i64 (((x.setI i).d2 : Nat) : Int), .int .i64 (((x.setI i).d3 : Nat) : Int), .int .i64 (((x.setI i).d4 : Nat) : Int), .int .i64 (((x.setI i).d5 : Nat) : Int), .int .i64 (((x.setI i).ind : Nat) : Int), .int .i64 (((x.setI i).ext : Nat) : Int), .int .i64 b, .int .i64 0] 114)) g3 V := HG3.out.keep ((Below.refl _ _).alloc (Nat.le_refl _) _)
  have sg := HG3.out.lt
  generalize w3.alloc (.cells #[.slice (some ⟨g3, 0, none⟩) v.length c3, .int .i64 (((x.setI i).kind : Nat) : Int), .int .i64 (((x.setI i).links : Nat) : Int), .int .i64 (((x.setI i).owner : Nat) : Int), .int .i64 (((x.setI i).size : Nat) : Int), .int .i64 (((x.setI i).d0 : Nat) : Int), .int .i64 (((x.setI i).d1 : Nat) : Int), .int .i64 (((x.setI i).d2 : Nat) : Int), .int .i64 (((x.setI i).d3 : Nat) : Int), .int .i64 (((x.setI i).d4 : Nat) : Int), .int .i64 (((x.setI i).d5 : Nat) : Int), .int .i64 (((x.setI i).ind : Nat) : Int), .int .i64 (((x.setI i).ext : Nat) : Int), .int .i64 b, .int .i64 0] 114) = W4 at *
  generalize w3.heap.size = q9 at *
  obtain ⟨j0, j1, j2, j3, j4, j5, j6, j7, j8, j9, j10, j11, j12, j13, j14⟩ := cells15 hq9
  have i0 := j0
  have i2 := j13
  have hx4 := blk_keep HU0.out hb4
  obtain ⟨x0, x1, x2, x3, x4, x5, x6, x7, x8, x9, x10, x11⟩ := cells12 hx4
  have i1 := x10
  have i3 := hg4.cell i (by rw [HT.out]; exact hgl)
  rw [HSB.out] at i3
  have HQ9 := Lib.hid hq9
  have HU4 := Lib.hid (blk_keep HU1.out hb4)
  have hne1 : w.heap.size + 1 ≠ q9 := by omega
  have HRV := Lib.hid (hg4.rs (by rw [HT.out]; omega))
  have HB4 := Lib.hid (below_keep HB6.out (Nat.le_refl _) hb4)
  have s4 := hb4.size
  clear hq9 hb4 hg4 hx4 j0 j1 j2 j3 j4 j5 j6 j7 j8 j9 j10 j11 j12 j13 j14
  refine region_P (fun w' => w'.cell? ⟨q9, 0, none⟩ = some (.slice (some ⟨g3, 0, none⟩) v.length c3) ∧ w'.cell? ⟨w.heap.size, 10, none⟩ = some (.int .i64 i) ∧ w'.cell? ⟨q9, 13, none⟩ = some (.int .i64 b) ∧ w'.cell? ⟨g3, i, none⟩ = some (.string (mk sb))) [18] (by kernel_rfl) ?_ (fun hHeld => ?_)
  · exact ⟨i0, i1, i2, i3⟩
  refine wpP_take (i := 0) (oi := ?oi295007) (v := ?v295007) ?hi295007 (by kernel_rfl) (by kernel_rfl) (by kernel_rfl) (by kernel_rfl) ?hQ295007 ?hy295007 (by assumption) ?rest295007
  case hi295007 => (simp only [List.getElem?_toArray, List.getElem?_cons_succ, List.getElem?_cons_zero]; exact rfl)
  case hQ295007 => exact fun _ _ _ h => h
  case hy295007 => (refine Or.inl ⟨by kernel_rfl, ?_⟩; intro w hSw; (try dsimp only at hSw); go_simp; try (with_reducible rfl))
  try simp only [Act.put, List.setIfInBounds_toArray, List.set_cons_zero, List.set_cons_succ]
  refine wpP_take (i := 1) (oi := ?oi295008) (v := ?v295008) ?hi295008 (by kernel_rfl) (by kernel_rfl) (by kernel_rfl) (by kernel_rfl) ?hQ295008 ?hy295008 (by assumption) ?rest295008
  case hi295008 => (simp only [List.getElem?_toArray, List.getElem?_cons_succ, List.getElem?_cons_zero]; exact rfl)
  case hQ295008 => exact fun _ _ _ h => h
  case hy295008 => (refine Or.inl ⟨by kernel_rfl, ?_⟩; intro w hSw; (try dsimp only at hSw); go_simp; try (with_reducible rfl))
  try simp only [Act.put, List.setIfInBounds_toArray, List.set_cons_zero, List.set_cons_succ]
  refine wpP_take (i := 2) (oi := ?oi295009) (v := ?v295009) ?hi295009 (by kernel_rfl) (by kernel_rfl) (by kernel_rfl) (by kernel_rfl) ?hQ295009 ?hy295009 (by assumption) ?rest295009
  case hi295009 => (simp only [List.getElem?_toArray, List.getElem?_cons_succ, List.getElem?_cons_zero]; exact rfl)
  case hQ295009 => exact fun _ _ _ h => h
  case hy295009 => (refine Or.inl ⟨by kernel_rfl, ?_⟩; intro w hSw; (try dsimp only at hSw); go_simp; try (with_reducible rfl))
  try simp only [Act.put, List.setIfInBounds_toArray, List.set_cons_zero, List.set_cons_succ]
  refine wpP_take (i := 3) (oi := ?oi295010) (v := ?v295010) ?hi295010 (by kernel_rfl) (by kernel_rfl) (by kernel_rfl) (by kernel_rfl) ?hQ295010 ?hy295010 (by assumption) ?rest295010
  case hi295010 => (simp only [List.getElem?_toArray, List.getElem?_cons_succ, List.getElem?_cons_zero]; exact rfl)
  case hQ295010 => exact fun _ _ _ h => h
  case hy295010 => (refine Or.inl ⟨by kernel_rfl, ?_⟩; intro w hSw; (try dsimp only at hSw); go_simp; try (with_reducible rfl))
  try simp only [Act.put, List.setIfInBounds_toArray, List.set_cons_zero, List.set_cons_succ]
  refine wpP_take (i := 4) (oi := ?oi295011) (v := ?v295011) ?hi295011 (by kernel_rfl) (by kernel_rfl) (by kernel_rfl) (by kernel_rfl) ?hQ295011 ?hy295011 (by assumption) ?rest295011
  case hi295011 => (simp only [List.getElem?_toArray, List.getElem?_cons_succ, List.getElem?_cons_zero]; exact rfl)
  case hQ295011 => exact fun _ _ _ h => h
  case hy295011 => (refine Or.inl ⟨by kernel_rfl, ?_⟩; intro w hSw; (try dsimp only at hSw); go_simp; try (with_reducible rfl))
  try simp only [Act.put, List.setIfInBounds_toArray, List.set_cons_zero, List.set_cons_succ]
  refine wpP_take (i := 5) (oi := ?oi295012) (v := ?v295012) ?hi295012 (by kernel_rfl) (by kernel_rfl) (by kernel_rfl) (by kernel_rfl) ?hQ295012 ?hy295012 (by assumption) ?rest295012
  case hi295012 => (simp only [List.getElem?_toArray, List.getElem?_cons_succ, List.getElem?_cons_zero]; exact rfl)
  case hQ295012 => exact fun _ _ _ h => h
  case hy295012 => (refine Or.inl ⟨by kernel_rfl, ?_⟩; intro w hSw; (try dsimp only at hSw); go_simp; try (with_reducible rfl))
  try simp only [Act.put, List.setIfInBounds_toArray, List.set_cons_zero, List.set_cons_succ]
  refine wpP_take (i := 6) (oi := ?oi295013) (v := ?v295013) ?hi295013 (by kernel_rfl) (by kernel_rfl) (by kernel_rfl) (by kernel_rfl) ?hQ295013 ?hy295013 (by assumption) ?rest295013
  case hi295013 => (simp only [List.getElem?_toArray, List.getElem?_cons_succ, List.getElem?_cons_zero]; exact rfl)
  case hQ295013 => exact fun _ _ _ h => h
  case hy295013 => (refine Or.inl ⟨by kernel_rfl, ?_⟩; intro w hSw; (try dsimp only at hSw); go_simp; try (with_reducible rfl))
  try simp only [Act.put, List.setIfInBounds_toArray, List.set_cons_zero, List.set_cons_succ]
  refine wpP_take (i := 7) (oi := ?oi295014) (v := ?v295014) ?hi295014 (by kernel_rfl) (by kernel_rfl) (by kernel_rfl) (by kernel_rfl) ?hQ295014 ?hy295014 (by assumption) ?rest295014
  case hi295014 => (simp only [List.getElem?_toArray, List.getElem?_cons_succ, List.getElem?_cons_zero]; exact rfl)
  case hQ295014 => exact fun _ _ _ h => h
  case hy295014 => (refine Or.inl ⟨by kernel_rfl, ?_⟩; intro w hSw; (try dsimp only at hSw); go_simp; try (with_reducible rfl))
  try simp only [Act.put, List.setIfInBounds_toArray, List.set_cons_zero, List.set_cons_succ]
  refine wpP_take (i := 8) (oi := ?oi295015) (v := ?v295015) ?hi295015 (by kernel_rfl) (by kernel_rfl) (by kernel_rfl) (by kernel_rfl) ?hQ295015 ?hy295015 (by assumption) ?rest295015
  case hi295015 => (simp only [List.getElem?_toArray, List.getElem?_cons_succ, List.getElem?_cons_zero]; exact rfl)
  case hQ295015 => exact fun _ _ _ h => h
  case hy295015 => (refine Or.inl ⟨by kernel_rfl, ?_⟩; intro w hSw; (try dsimp only at hSw); go_simp; try (with_reducible rfl))
  try simp only [Act.put, List.setIfInBounds_toArray, List.set_cons_zero, List.set_cons_succ]
  refine wpP_take (i := 9) (oi := ?oi295016) (v := ?v295016) ?hi295016 (by kernel_rfl) (by kernel_rfl) (by kernel_rfl) (by kernel_rfl) ?hQ295016 ?hy295016 (by assumption) ?rest295016
  case hi295016 => (simp only [List.getElem?_toArray, List.getElem?_cons_succ, List.getElem?_cons_zero]; exact rfl)
  case hQ295016 => exact fun _ _ _ h => h
  case hy295016 => (refine Or.inl ⟨by kernel_rfl, ?_⟩; intro w hSw; (try dsimp only at hSw); go_simp; try (with_reducible rfl))
  try simp only [Act.put, List.setIfInBounds_toArray, List.set_cons_zero, List.set_cons_succ]
  refine wpP_take (i := 10) (oi := ?oi295017) (v := ?v295017) ?hi295017 (by kernel_rfl) (by kernel_rfl) (by kernel_rfl) (by kernel_rfl) ?hQ295017 ?hy295017 (by assumption) ?rest295017
  case hi295017 => (simp only [List.getElem?_toArray, List.getElem?_cons_succ, List.getElem?_cons_zero]; exact rfl)
  case hQ295017 => exact fun _ _ _ h => h
  case hy295017 => (refine Or.inl ⟨by kernel_rfl, ?_⟩; intro w hSw; (try dsimp only at hSw); go_simp; try (with_reducible rfl))
  try simp only [Act.put, List.setIfInBounds_toArray, List.set_cons_zero, List.set_cons_succ]
  refine wpP_take (i := 11) (oi := ?oi295018) (v := ?v295018) ?hi295018 (by kernel_rfl) (by kernel_rfl) (by kernel_rfl) (by kernel_rfl) ?hQ295018 ?hy295018 (by assumption) ?rest295018
  case hi295018 => (simp only [List.getElem?_toArray, List.getElem?_cons_succ, List.getElem?_cons_zero]; exact rfl)
  case hQ295018 => exact fun _ _ _ h => h
  case hy295018 => (refine Or.inl ⟨by kernel_rfl, ?_⟩; intro w hSw; (try dsimp only at hSw); go_simp; try (with_reducible rfl))
  try simp only [Act.put, List.setIfInBounds_toArray, List.set_cons_zero, List.set_cons_succ]
  refine wpP_take (i := 12) (oi := ?oi295019) (v := ?v295019) ?hi295019 (by kernel_rfl) (by kernel_rfl) (by kernel_rfl) (by kernel_rfl) ?hQ295019 ?hy295019 (by assumption) ?rest295019
  case hi295019 => (simp only [List.getElem?_toArray, List.getElem?_cons_succ, List.getElem?_cons_zero]; exact rfl)
  case hQ295019 => exact fun _ _ _ h => h
  case hy295019 => (refine Or.inl ⟨by kernel_rfl, ?_⟩; intro w hSw; (try dsimp only at hSw); go_simp; try (with_reducible rfl))
  try simp only [Act.put, List.setIfInBounds_toArray, List.set_cons_zero, List.set_cons_succ]
  refine wpP_take (i := 13) (oi := ?oi295020) (v := ?v295020) ?hi295020 (by kernel_rfl) (by kernel_rfl) (by kernel_rfl) (by kernel_rfl) ?hQ295020 ?hy295020 (by assumption) ?rest295020
  case hi295020 => (simp only [List.getElem?_toArray, List.getElem?_cons_succ, List.getElem?_cons_zero]; exact rfl)
  case hQ295020 => exact fun _ _ _ h => h
  case hy295020 => (refine Or.inl ⟨by kernel_rfl, ?_⟩; intro w hSw; (try dsimp only at hSw); go_simp; try (with_reducible rfl))
  try simp only [Act.put, List.setIfInBounds_toArray, List.set_cons_zero, List.set_cons_succ]
  refine wpP_take (i := 14) (oi := ?oi295021) (v := ?v295021) ?hi295021 (by kernel_rfl) (by kernel_rfl) (by kernel_rfl) (by kernel_rfl) ?hQ295021 ?hy295021 (by assumption) ?rest295021
  case hi295021 => (simp only [List.getElem?_toArray, List.getElem?_cons_succ, List.getElem?_cons_zero]; exact rfl)
  case hQ295021 => exact fun _ _ _ h => h
  case hy295021 => (refine Or.inl ⟨by kernel_rfl, ?_⟩; intro w hSw; (try dsimp only at hSw); go_simp; try (with_reducible rfl))
  try simp only [Act.put, List.setIfInBounds_toArray, List.set_cons_zero, List.set_cons_succ]
  refine wpP_ready (rs := [15]) (by kernel_rfl) (by simp) ?_
  refine AllP.cons (o := ?o295022) ?ho295022 (fun K hK => ?_) AllP.nil
  case ho295022 => (simp only [List.getElem?_toArray, List.getElem?_cons_succ, List.getElem?_cons_zero]; exact rfl)
  go_simp
  go_at_call 113
  refine (put19_ok sb p b _ hsb (by omega) (by omega)).mono ?_
  rintro e w5 ⟨rfl, hb5⟩
  have k5 : Below W4.heap.size W4 w5 := below_und hb5
  refine hK.out _ _ ?_ (fun hHeld => ?_)
  · exact ⟨cell_keep hHeld.1 hb5, cell_keep hHeld.2.1 hb5, cell_keep hHeld.2.2.1 hb5, cell_keep hHeld.2.2.2 hb5⟩
  clear hK K
  try simp only [Act.put, List.setIfInBounds_toArray, List.set_cons_zero, List.set_cons_succ]
  refine wpP_ready (rs := [16]) (by kernel_rfl) (by simp) ?_
  refine AllP.cons (o := ?o295023) ?ho295023 (fun K hK => ?_) AllP.nil
  case ho295023 => (simp only [List.getElem?_toArray, List.getElem?_cons_succ, List.getElem?_cons_zero]; exact rfl)
  go_simp
  go_at_call 81
  refine (HWI.out _ _ _ (HRV.out.below k5)).mono ?_
  rintro e w6 ⟨g6, c6, rfl, hg6, hgs6, hb6⟩
  have k6 : Below W4.heap.size W4 w6 := below_more k5 k5.size hb6
  have hq9' := blk_keep HQ9.out k6
  obtain ⟨z0, z1, z2, z3, z4, z5, z6, z7, z8, z9, z10, z11, z12, z13, z14⟩ := cells15 hq9'
  have hf9 := free_of hq9' 0
  have hs9 := blk_set hq9' 0 (.slice (some ⟨g6, 0, none⟩) v.length c6)
  simp only [List.setIfInBounds_toArray, List.set_cons_zero] at hs9
  obtain ⟨y0, y1, y2, y3, y4, y5, y6, y7, y8, y9, y10, y11, y12, y13, y14⟩ := cells15 hs9
  have hu1 := blk_keep HU4.out k6
  have hu2 := blk_set_other hu1 hne1 0 (.slice (some ⟨g6, 0, none⟩) v.length c6)
  obtain ⟨fr0, fr1, fr2, fr3, fr4, fr5, fr6, fr7, fr8, fr9, fr10, fr11, fr12, fr13, fr14⟩ := frees15 hu2
  obtain ⟨u0, u1, u2, u3, u4, u5, u6, u7, u8, u9, u10, u11, u12, u13, u14⟩ := cells15 hu2
  have HU2 := Lib.hid hu2
  refine hK.out _ _ ?_ (fun hHeld => ?_)
  · exact ⟨cell_keep hHeld.1 hb6, cell_keep hHeld.2.1 hb6, cell_keep hHeld.2.2.1 hb6, cell_keep hHeld.2.2.2 hb6⟩
  clear hK K
  try simp only [Act.put, List.setIfInBounds_toArray, List.set_cons_zero, List.set_cons_succ]
  refine wpP_take (i := 17) (oi := ?oi295024) (v := ?v295024) ?hi295024 (by kernel_rfl) (by kernel_rfl) (by kernel_rfl) (by kernel_rfl) ?hQ295024 ?hy295024 (by assumption) ?rest295024
  case hi295024 => (simp only [List.getElem?_toArray, List.getElem?_cons_succ, List.getElem?_cons_zero]; exact rfl)
  case hQ295024 => exact fun _ _ _ h => h
  case hy295024 => (refine Or.inl ⟨by kernel_rfl, ?_⟩; intro w hSw; (try dsimp only at hSw); go_simp; try (with_reducible rfl))
  try simp only [Act.put, List.setIfInBounds_toArray, List.set_cons_zero, List.set_cons_succ]
  refine wpP_ready (rs := [18]) (by kernel_rfl) (by simp) ?_
  refine AllP.last (o := ?o295025) ?ho295025 (by kernel_rfl) (fun K hK => ?_) AllP.nil
  case ho295025 => (simp only [List.getElem?_toArray, List.getElem?_cons_succ, List.getElem?_cons_zero]; exact rfl)
  go_simp
  refine hK.out _ _ ?_
  clear hK K
  try simp only [Act.put, List.setIfInBounds_toArray, List.set_cons_zero, List.set_cons_succ]
  refine wpP_done (by kernel_rfl) ?_ _
  go_wp2
  have hbf := blk_set15 (a0 := .slice (some ⟨g6, 0, none⟩) v.length c6) (a1 := .int .i64 (((x.setI i).kind : Nat) : Int)) (a2 := .int .i64 (((x.setI i).links : Nat) : Int)) (a3 := .int .i64 (((x.setI i).owner : Nat) : Int)) (a4 := .int .i64 (((x.setI i).size : Nat) : Int)) (a5 := .int .i64 (((x.setI i).d0 : Nat) : Int)) (a6 := .int .i64 (((x.setI i).d1 : Nat) : Int)) (a7 := .int .i64 (((x.setI i).d2 : Nat) : Int)) (a8 := .int .i64 (((x.setI i).d3 : Nat) : Int)) (a9 := .int .i64 (((x.setI i).d4 : Nat) : Int)) (a10 := .int .i64 (((x.setI i).d5 : Nat) : Int)) (a11 := .int .i64 (((x.setI i).ind : Nat) : Int)) (a12 := .int .i64 (((x.setI i).ext : Nat) : Int)) (a13 := .int .i64 b) (a14 := .int .i64 0) HU2.out
  obtain ⟨r0, r1, r2, r3, r4, r5, r6, r7, r8, r9, r10, r11, r12, r13, r14⟩ := cells15 hbf
  refine bodyPost_ret (v := .agg #[.slice (some ⟨g6, 0, none⟩) v.length c6, .int .i64 ((((x.setI i)).kind : Nat) : Int), .int .i64 ((((x.setI i)).links : Nat) : Int), .int .i64 ((((x.setI i)).owner : Nat) : Int), .int .i64 ((((x.setI i)).size : Nat) : Int), .int .i64 ((((x.setI i)).d0 : Nat) : Int), .int .i64 ((((x.setI i)).d1 : Nat) : Int), .int .i64 ((((x.setI i)).d2 : Nat) : Int), .int .i64 ((((x.setI i)).d3 : Nat) : Int), .int .i64 ((((x.setI i)).d4 : Nat) : Int), .int .i64 ((((x.setI i)).d5 : Nat) : Int), .int .i64 ((((x.setI i)).ind : Nat) : Int), .int .i64 ((((x.setI i)).ext : Nat) : Int), .int .i64 b, .int .i64 0]) (by simp [results, Try.results80, go_sem, r0, r1, r2, r3, r4, r5, r6, r7, r8, r9, r10, r11, r12, r13, r14]) rfl ?_
  have s6 := hg6.lt
  have s7 := k5.size
  have s8 := blk_lt HQ9.out
  refine ⟨g6, c6, rfl, ?_, by omega, below_set15 (below_set (below_keep HB4.out (Nat.le_refl _) k6) (by omega)) (by omega)⟩
  obtain ⟨cur, hg, hc⟩ := hg6.other (show g6 ≠ q9 by omega) (i := 0) (u := .slice (some ⟨g6, 0, none⟩) v.length c6)
  exact ⟨cur, heap_set15 hg (show g6 ≠ w.heap.size + 1 by omega), hc⟩
end Go.Proofs.Ytacdohlhalnioaa
end

/- Contract: no block is left (the document's). -/
section
set_option linter.unusedVariables false
set_option linter.unusedSimpArgs false
set_option maxRecDepth 20000
namespace Go.Proofs.Ytacdohlhalnioaa
open Go.RowKit
attribute [local go_sem] Oper.semAt_some

set_option maxHeartbeats 16000000 in
theorem rplace_full_far (A : Option Addr) (c : Nat) (v : Vol) (x : Ino) (k : Nat) (w : World) (hr : RS w A v) (hv : okV v = true) (hk : k < 70) (h : atN (dataV v) v.length v x k = 0) (hk6 : 6 ≤ k) (hb : freeB v = none) :
    Calls Try.prog 80 #[.slice A v.length c, .agg #[.int .i64 ((x.kind : Nat) : Int), .int .i64 ((x.links : Nat) : Int), .int .i64 ((x.owner : Nat) : Int), .int .i64 ((x.size : Nat) : Int), .int .i64 ((x.d0 : Nat) : Int), .int .i64 ((x.d1 : Nat) : Int), .int .i64 ((x.d2 : Nat) : Int), .int .i64 ((x.d3 : Nat) : Int), .int .i64 ((x.d4 : Nat) : Int), .int .i64 ((x.d5 : Nat) : Int), .int .i64 ((x.ind : Nat) : Int), .int .i64 ((x.ext : Nat) : Int)], .int .i64 k] w fun e w' => e = .returned (.agg #[.slice none 0 0, .int .i64 0, .int .i64 0, .int .i64 0, .int .i64 0, .int .i64 0, .int .i64 0, .int .i64 0, .int .i64 0, .int .i64 0, .int .i64 0, .int .i64 0, .int .i64 0, .int .i64 0, .int .i64 10]) ∧ Below w.heap.size w w' := by
  obtain ⟨hB0, hq0, hq1⟩ := place_start x w _ rfl
  have HB0 := Lib.hid hB0
  have HQ0 := Lib.hid hq0
  have HQ1 := Lib.hid hq1
  obtain ⟨x0, x1, x2, x3, x4, x5, x6, x7, x8, x9, x10, x11⟩ := cells12 hq0
  have HR := Lib.hid hr
  have H := okV_iff.1 hv
  have hd0 : 0 < dataV v := by rw [dataV]; omega
  have hhi := H.hi
  have hdat := Lib.hid (fun w hr => rdata_ok A c v w hr hv)
  have hat := Lib.hid (fun w hr => rat_ok A c (dataV v) v.length v x k w hr rfl hk hd0 H.size)
  rw [h] at hat
  have htk := Lib.hid (fun w hr => rtake19_full A c v x w hr hv hb)
  have hki : ¬ ((k : Int) < 6) := by omega
  have hd3 := dataV_pos v
  clear hr hv h H hB0 hq0 hq1 hb
  generalize dataV v = d at *
  by_cases hg : goodN d v.length x.ind = true
  · have hgd := (goodN_iff.1 hg).1
    have hgz := goodZ_yes hg
    have HGZ := Lib.hid hgz
    have hin : ((x.ind : Int) == 0) = false := by rw [beq_eq_false_iff_ne]; omega
    clear hg hgz
    go_enter Try.func80, Try.ntmps80
    go_wp2_with (first
      | (go_at_call 56; refine (hdat.out _ (HR.out.below HB0.out)).mono ?_; rintro e w1 ⟨rfl, hb1⟩; have HB1 := Lib.hid (below_keep HB0.out (Nat.le_refl _) hb1); have hq0 := blk_keep HQ0.out hb1; obtain ⟨x0, x1, x2, x3, x4, x5, x6, x7, x8, x9, x10, x11⟩ := cells12 hq0; have HP0 := Lib.hid hq0; have HP1 := Lib.hid (blk_keep HQ1.out hb1); clear hb1 hq0)
      | (go_at_call 59; refine (hat.out _ (HR.out.below HB1.out)).mono ?_; rintro e w2 ⟨rfl, hb2⟩; have HB2 := Lib.hid (below_keep HB1.out (Nat.le_refl _) hb2); have hq0 := blk_keep HP0.out hb2; have hq1 := blk_keep HP1.out hb2; obtain ⟨x0, x1, x2, x3, x4, x5, x6, x7, x8, x9, x10, x11⟩ := cells12 hq0; obtain ⟨z0, z1, z2, z3, z4, z5, z6, z7, z8, z9, z10, z11, z12, z13, z14⟩ := cells15 hq1; obtain ⟨f0, f1, f2, f3, f4, f5, f6, f7, f8, f9, f10, f11, f12, f13, f14⟩ := frees15 hq1; have HU0 := Lib.hid hq0; have HU1 := Lib.hid hq1; clear hb2 hq0 hq1)
      | (go_at_call 64; refine (rgood_ok A c v.length d x.ind _ (by omega)).mono ?_; rw [HGZ.out]; rintro e w8 ⟨rfl, rfl⟩)
      | (go_at_call 112; refine (htk.out _ (HR.out.below HB2.out)).mono ?_; rintro e w3 ⟨rfl, hb3⟩; have HB3 := Lib.hid hb3; have hb4 := hb3.alloc hb3.size (.cells #[.slice none 0 0, .int .i64 0, .int .i64 0, .int .i64 0, .int .i64 0, .int .i64 0, .int .i64 0, .int .i64 0, .int .i64 0, .int .i64 0, .int .i64 0, .int .i64 0, .int .i64 0, .int .i64 0, .int .i64 10] 114); obtain ⟨z0, z1, z2, z3, z4, z5, z6, z7, z8, z9, z10, z11, z12, z13, z14⟩ := cells15 (blk_new w3 (.cells #[.slice none 0 0, .int .i64 0, .int .i64 0, .int .i64 0, .int .i64 0, .int .i64 0, .int .i64 0, .int .i64 0, .int .i64 0, .int .i64 0, .int .i64 0, .int .i64 0, .int .i64 0, .int .i64 0, .int .i64 10] 114)); have hu1 := blk_keep HU1.out hb4; obtain ⟨fr0, fr1, fr2, fr3, fr4, fr5, fr6, fr7, fr8, fr9, fr10, fr11, fr12, fr13, fr14⟩ := frees15 hu1; obtain ⟨u0, u1, u2, u3, u4, u5, u6, u7, u8, u9, u10, u11, u12, u13, u14⟩ := cells15 hu1; have HU2 := Lib.hid hu1; have HB4 := Lib.hid (below_keep HB2.out (Nat.le_refl _) hb4); clear hb3 hu1 hb4))
    have hbf := blk_set15 (a0 := .slice none 0 0) (a1 := .int .i64 0) (a2 := .int .i64 0) (a3 := .int .i64 0) (a4 := .int .i64 0) (a5 := .int .i64 0) (a6 := .int .i64 0) (a7 := .int .i64 0) (a8 := .int .i64 0) (a9 := .int .i64 0) (a10 := .int .i64 0) (a11 := .int .i64 0) (a12 := .int .i64 0) (a13 := .int .i64 0) (a14 := .int .i64 10) HU2.out
    obtain ⟨r0, r1, r2, r3, r4, r5, r6, r7, r8, r9, r10, r11, r12, r13, r14⟩ := cells15 hbf
    refine bodyPost_ret (v := .agg #[.slice none 0 0, .int .i64 0, .int .i64 0, .int .i64 0, .int .i64 0, .int .i64 0, .int .i64 0, .int .i64 0, .int .i64 0, .int .i64 0, .int .i64 0, .int .i64 0, .int .i64 0, .int .i64 0, .int .i64 10]) (by simp [results, Try.results80, go_sem, r0, r1, r2, r3, r4, r5, r6, r7, r8, r9, r10, r11, r12, r13, r14]) rfl ?_
    exact ⟨rfl, below_set15 HB4.out (by omega)⟩
  · rw [Bool.not_eq_true] at hg
    have hgz := goodZ_no hg
    have HGZ := Lib.hid hgz
    clear hg hgz
    go_enter Try.func80, Try.ntmps80
    go_wp2_with (first
      | (go_at_call 56; refine (hdat.out _ (HR.out.below HB0.out)).mono ?_; rintro e w1 ⟨rfl, hb1⟩; have HB1 := Lib.hid (below_keep HB0.out (Nat.le_refl _) hb1); have hq0 := blk_keep HQ0.out hb1; obtain ⟨x0, x1, x2, x3, x4, x5, x6, x7, x8, x9, x10, x11⟩ := cells12 hq0; have HP0 := Lib.hid hq0; have HP1 := Lib.hid (blk_keep HQ1.out hb1); clear hb1 hq0)
      | (go_at_call 59; refine (hat.out _ (HR.out.below HB1.out)).mono ?_; rintro e w2 ⟨rfl, hb2⟩; have HB2 := Lib.hid (below_keep HB1.out (Nat.le_refl _) hb2); have hq0 := blk_keep HP0.out hb2; have hq1 := blk_keep HP1.out hb2; obtain ⟨x0, x1, x2, x3, x4, x5, x6, x7, x8, x9, x10, x11⟩ := cells12 hq0; obtain ⟨z0, z1, z2, z3, z4, z5, z6, z7, z8, z9, z10, z11, z12, z13, z14⟩ := cells15 hq1; obtain ⟨f0, f1, f2, f3, f4, f5, f6, f7, f8, f9, f10, f11, f12, f13, f14⟩ := frees15 hq1; have HU0 := Lib.hid hq0; have HU1 := Lib.hid hq1; clear hb2 hq0 hq1)
      | (go_at_call 64; refine (rgood_ok A c v.length d x.ind _ (by omega)).mono ?_; rw [HGZ.out]; rintro e w8 ⟨rfl, rfl⟩)
      | (go_at_call 112; refine (htk.out _ (HR.out.below HB2.out)).mono ?_; rintro e w3 ⟨rfl, hb3⟩; have HB3 := Lib.hid hb3; have hb4 := hb3.alloc hb3.size (.cells #[.slice none 0 0, .int .i64 0, .int .i64 0, .int .i64 0, .int .i64 0, .int .i64 0, .int .i64 0, .int .i64 0, .int .i64 0, .int .i64 0, .int .i64 0, .int .i64 0, .int .i64 0, .int .i64 0, .int .i64 10] 114); obtain ⟨z0, z1, z2, z3, z4, z5, z6, z7, z8, z9, z10, z11, z12, z13, z14⟩ := cells15 (blk_new w3 (.cells #[.slice none 0 0, .int .i64 0, .int .i64 0, .int .i64 0, .int .i64 0, .int .i64 0, .int .i64 0, .int .i64 0, .int .i64 0, .int .i64 0, .int .i64 0, .int .i64 0, .int .i64 0, .int .i64 0, .int .i64 10] 114)); have hu1 := blk_keep HU1.out hb4; obtain ⟨fr0, fr1, fr2, fr3, fr4, fr5, fr6, fr7, fr8, fr9, fr10, fr11, fr12, fr13, fr14⟩ := frees15 hu1; obtain ⟨u0, u1, u2, u3, u4, u5, u6, u7, u8, u9, u10, u11, u12, u13, u14⟩ := cells15 hu1; have HU2 := Lib.hid hu1; have HB4 := Lib.hid (below_keep HB2.out (Nat.le_refl _) hb4); clear hb3 hu1 hb4))
    have hbf := blk_set15 (a0 := .slice none 0 0) (a1 := .int .i64 0) (a2 := .int .i64 0) (a3 := .int .i64 0) (a4 := .int .i64 0) (a5 := .int .i64 0) (a6 := .int .i64 0) (a7 := .int .i64 0) (a8 := .int .i64 0) (a9 := .int .i64 0) (a10 := .int .i64 0) (a11 := .int .i64 0) (a12 := .int .i64 0) (a13 := .int .i64 0) (a14 := .int .i64 10) HU2.out
    obtain ⟨r0, r1, r2, r3, r4, r5, r6, r7, r8, r9, r10, r11, r12, r13, r14⟩ := cells15 hbf
    refine bodyPost_ret (v := .agg #[.slice none 0 0, .int .i64 0, .int .i64 0, .int .i64 0, .int .i64 0, .int .i64 0, .int .i64 0, .int .i64 0, .int .i64 0, .int .i64 0, .int .i64 0, .int .i64 0, .int .i64 0, .int .i64 0, .int .i64 10]) (by simp [results, Try.results80, go_sem, r0, r1, r2, r3, r4, r5, r6, r7, r8, r9, r10, r11, r12, r13, r14]) rfl ?_
    exact ⟨rfl, below_set15 HB4.out (by omega)⟩
set_option maxHeartbeats 16000000 in
theorem rplace_full_near (A : Option Addr) (c : Nat) (v : Vol) (x : Ino) (k : Nat) (w : World) (hr : RS w A v) (hv : okV v = true) (hk : k < 70) (h : atN (dataV v) v.length v x k = 0) (hk6 : k < 6) (hb : freeB v = none) :
    Calls Try.prog 80 #[.slice A v.length c, .agg #[.int .i64 ((x.kind : Nat) : Int), .int .i64 ((x.links : Nat) : Int), .int .i64 ((x.owner : Nat) : Int), .int .i64 ((x.size : Nat) : Int), .int .i64 ((x.d0 : Nat) : Int), .int .i64 ((x.d1 : Nat) : Int), .int .i64 ((x.d2 : Nat) : Int), .int .i64 ((x.d3 : Nat) : Int), .int .i64 ((x.d4 : Nat) : Int), .int .i64 ((x.d5 : Nat) : Int), .int .i64 ((x.ind : Nat) : Int), .int .i64 ((x.ext : Nat) : Int)], .int .i64 k] w fun e w' => e = .returned (.agg #[.slice none 0 0, .int .i64 0, .int .i64 0, .int .i64 0, .int .i64 0, .int .i64 0, .int .i64 0, .int .i64 0, .int .i64 0, .int .i64 0, .int .i64 0, .int .i64 0, .int .i64 0, .int .i64 0, .int .i64 10]) ∧ Below w.heap.size w w' := by
  obtain ⟨hB0, hq0, hq1⟩ := place_start x w _ rfl
  have HB0 := Lib.hid hB0
  have HQ0 := Lib.hid hq0
  have HQ1 := Lib.hid hq1
  obtain ⟨x0, x1, x2, x3, x4, x5, x6, x7, x8, x9, x10, x11⟩ := cells12 hq0
  have HR := Lib.hid hr
  have H := okV_iff.1 hv
  have hd0 : 0 < dataV v := by rw [dataV]; omega
  have hhi := H.hi
  have hdat := Lib.hid (fun w hr => rdata_ok A c v w hr hv)
  have hat := Lib.hid (fun w hr => rat_ok A c (dataV v) v.length v x k w hr rfl hk hd0 H.size)
  rw [h] at hat
  have htk := Lib.hid (fun w hr => rtake19_full A c v x w hr hv hb)
  have hki : (k : Int) < 6 := by omega
  clear hr hv h H hB0 hq0 hq1 hb
  generalize dataV v = d at *
  go_enter Try.func80, Try.ntmps80
  go_upto_region 7 with (first
    | (go_at_call 56; refine (hdat.out _ (HR.out.below HB0.out)).mono ?_; rintro e w1 ⟨rfl, hb1⟩; have HB1 := Lib.hid (below_keep HB0.out (Nat.le_refl _) hb1); have hq0 := blk_keep HQ0.out hb1; obtain ⟨x0, x1, x2, x3, x4, x5, x6, x7, x8, x9, x10, x11⟩ := cells12 hq0; have HP0 := Lib.hid hq0; have HP1 := Lib.hid (blk_keep HQ1.out hb1); clear hb1 hq0)
    | (go_at_call 59; refine (hat.out _ (HR.out.below HB1.out)).mono ?_; rintro e w2 ⟨rfl, hb2⟩; have HB2 := Lib.hid (below_keep HB1.out (Nat.le_refl _) hb2); have hq0 := blk_keep HP0.out hb2; have hq1 := blk_keep HP1.out hb2; obtain ⟨x0, x1, x2, x3, x4, x5, x6, x7, x8, x9, x10, x11⟩ := cells12 hq0; obtain ⟨z0, z1, z2, z3, z4, z5, z6, z7, z8, z9, z10, z11, z12, z13, z14⟩ := cells15 hq1; obtain ⟨f0, f1, f2, f3, f4, f5, f6, f7, f8, f9, f10, f11, f12, f13, f14⟩ := frees15 hq1; have HU0 := Lib.hid hq0; have HU1 := Lib.hid hq1; clear hb2 hq0 hq1)
    | (go_at_call 112; refine (htk.out _ (HR.out.below HB2.out)).mono ?_; rintro e w3 ⟨rfl, hb3⟩; have HB3 := Lib.hid hb3; clear hb3))
  have s3 := HB3.out.size
  have s2 := HB2.out.size
  have su := blk_lt HU1.out
  have hb4 := HB3.out.alloc HB3.out.size (.cells #[.slice none 0 0, .int .i64 0, .int .i64 0, .int .i64 0, .int .i64 0, .int .i64 0, .int .i64 0, .int .i64 0, .int .i64 0, .int .i64 0, .int .i64 0, .int .i64 0, .int .i64 0, .int .i64 0, .int .i64 10] 114)
  have hq9 := blk_new w3 (.cells #[.slice none 0 0, .int .i64 0, .int .i64 0, .int .i64 0, .int .i64 0, .int .i64 0, .int .i64 0, .int .i64 0, .int .i64 0, .int .i64 0, .int .i64 0, .int .i64 0, .int .i64 0, .int .i64 0, .int .i64 10] 114)
  generalize w3.alloc (.cells #[.slice none 0 0, .int .i64 0, .int .i64 0, .int .i64 0, .int .i64 0, .int .i64 0, .int .i64 0, .int .i64 0, .int .i64 0, .int .i64 0, .int .i64 0, .int .i64 0, .int .i64 0, .int .i64 0, .int .i64 10] 114) = W4 at *
  generalize w3.heap.size = q9 at *
  obtain ⟨z0, z1, z2, z3, z4, z5, z6, z7, z8, z9, z10, z11, z12, z13, z14⟩ := cells15 hq9
  have hfk := free_of hq9 (5 + k)
  have hck : W4.cell? ⟨q9, 5 + k, none⟩ = some (.int .i64 0) := by
    rw [cell_at hq9]
    rcases (by omega : k = 0 ∨ k = 1 ∨ k = 2 ∨ k = 3 ∨ k = 4 ∨ k = 5) with rfl | rfl | rfl | rfl | rfl | rfl <;> rfl
  have hs9 := blk_set hq9 (5 + k) (.int .i64 0)
  have hsame : (#[.slice none 0 0, .int .i64 0, .int .i64 0, .int .i64 0, .int .i64 0, .int .i64 0, .int .i64 0, .int .i64 0, .int .i64 0, .int .i64 0, .int .i64 0, .int .i64 0, .int .i64 0, .int .i64 0, .int .i64 10] : Array Value).setIfInBounds (5 + k) (.int .i64 0) = #[.slice none 0 0, .int .i64 0, .int .i64 0, .int .i64 0, .int .i64 0, .int .i64 0, .int .i64 0, .int .i64 0, .int .i64 0, .int .i64 0, .int .i64 0, .int .i64 0, .int .i64 0, .int .i64 0, .int .i64 10] := by
    rcases (by omega : k = 0 ∨ k = 1 ∨ k = 2 ∨ k = 3 ∨ k = 4 ∨ k = 5) with rfl | rfl | rfl | rfl | rfl | rfl <;> rfl
  rw [hsame] at hs9
  obtain ⟨y0, y1, y2, y3, y4, y5, y6, y7, y8, y9, y10, y11, y12, y13, y14⟩ := cells15 hs9
  have hu1 := blk_keep HU1.out hb4
  have hu2 := blk_set_other hu1 (show w.heap.size + 1 ≠ q9 by omega) (5 + k) (.int .i64 0)
  obtain ⟨fr0, fr1, fr2, fr3, fr4, fr5, fr6, fr7, fr8, fr9, fr10, fr11, fr12, fr13, fr14⟩ := frees15 hu2
  obtain ⟨u0, u1, u2, u3, u4, u5, u6, u7, u8, u9, u10, u11, u12, u13, u14⟩ := cells15 hu2
  have HU2 := Lib.hid hu2
  have HB5 := Lib.hid (below_set (below_keep HB2.out (Nat.le_refl _) hb4) (show w.heap.size ≤ q9 by omega) (i := 5 + k) (u := .int .i64 0))
  clear hq9 hs9 hu1 hu2 hb4 hsame
  go_wp2
  have hbf := blk_set15 (a0 := .slice none 0 0) (a1 := .int .i64 0) (a2 := .int .i64 0) (a3 := .int .i64 0) (a4 := .int .i64 0) (a5 := .int .i64 0) (a6 := .int .i64 0) (a7 := .int .i64 0) (a8 := .int .i64 0) (a9 := .int .i64 0) (a10 := .int .i64 0) (a11 := .int .i64 0) (a12 := .int .i64 0) (a13 := .int .i64 0) (a14 := .int .i64 10) HU2.out
  obtain ⟨r0, r1, r2, r3, r4, r5, r6, r7, r8, r9, r10, r11, r12, r13, r14⟩ := cells15 hbf
  refine bodyPost_ret (v := .agg #[.slice none 0 0, .int .i64 0, .int .i64 0, .int .i64 0, .int .i64 0, .int .i64 0, .int .i64 0, .int .i64 0, .int .i64 0, .int .i64 0, .int .i64 0, .int .i64 0, .int .i64 0, .int .i64 0, .int .i64 10]) (by simp [results, Try.results80, go_sem, r0, r1, r2, r3, r4, r5, r6, r7, r8, r9, r10, r11, r12, r13, r14]) rfl ?_
  exact ⟨rfl, below_set15 HB5.out (by omega)⟩
end Go.Proofs.Ytacdohlhalnioaa
end

/- Contract: the second block is not left; placing, joined (the document's). -/
section
set_option linter.unusedVariables false
set_option linter.unusedSimpArgs false
set_option maxRecDepth 20000
namespace Go.Proofs.Ytacdohlhalnioaa
open Go.RowKit
attribute [local go_sem] Oper.semAt_some

set_option maxHeartbeats 16000000 in
theorem rplace_full_two (A : Option Addr) (c : Nat) (v : Vol) (x : Ino) (k i : Nat) (w : World) (hr : RS w A v) (hv : okV v = true) (hk : k < 70) (h : atN (dataV v) v.length v x k = 0) (hk6 : 6 ≤ k) (hg : goodN (dataV v) v.length x.ind = false) (hi : freeB v = some i) (hb : freeB (tookV v i) = none) :
    Calls Try.prog 80 #[.slice A v.length c, .agg #[.int .i64 ((x.kind : Nat) : Int), .int .i64 ((x.links : Nat) : Int), .int .i64 ((x.owner : Nat) : Int), .int .i64 ((x.size : Nat) : Int), .int .i64 ((x.d0 : Nat) : Int), .int .i64 ((x.d1 : Nat) : Int), .int .i64 ((x.d2 : Nat) : Int), .int .i64 ((x.d3 : Nat) : Int), .int .i64 ((x.d4 : Nat) : Int), .int .i64 ((x.d5 : Nat) : Int), .int .i64 ((x.ind : Nat) : Int), .int .i64 ((x.ext : Nat) : Int)], .int .i64 k] w fun e w' => e = .returned (.agg #[.slice none 0 0, .int .i64 0, .int .i64 0, .int .i64 0, .int .i64 0, .int .i64 0, .int .i64 0, .int .i64 0, .int .i64 0, .int .i64 0, .int .i64 0, .int .i64 0, .int .i64 0, .int .i64 0, .int .i64 10]) ∧ Below w.heap.size w w' := by
  obtain ⟨hB0, hq0, hq1⟩ := place_start x w _ rfl
  have HB0 := Lib.hid hB0
  have HQ0 := Lib.hid hq0
  have HQ1 := Lib.hid hq1
  obtain ⟨x0, x1, x2, x3, x4, x5, x6, x7, x8, x9, x10, x11⟩ := cells12 hq0
  have HR := Lib.hid hr
  have H := okV_iff.1 hv
  have hd0 : 0 < dataV v := by rw [dataV]; omega
  have hhi := H.hi
  have hdat := Lib.hid (fun w hr => rdata_ok A c v w hr hv)
  have hat := Lib.hid (fun w hr => rat_ok A c (dataV v) v.length v x k w hr rfl hk hd0 H.size)
  rw [h] at hat
  obtain ⟨f1, hgl, _⟩ := freeB_some hi
  have hkt1 := kept_tookV hv f1 hgl
  have htk := Lib.hid (fun w hr => rtake19_ok A c v x i w hr hv hi)
  have htk2 := fun A' c' w hr => rtake19_full A' c' (tookV v i) (x.setI i) w hr hkt1.ok hb
  rw [hkt1.len] at htk2
  have HTK2 := Lib.hid htk2
  have hki : ¬ ((k : Int) < 6) := by omega
  have hgz := goodZ_no hg
  have HGZ := Lib.hid hgz
  have HT1 := Lib.hid hkt1.len
  clear hr hv h H hB0 hq0 hq1 hb hi hkt1 hg hgz f1 htk2
  generalize tookV v i = V1 at *
  generalize dataV v = d at *
  go_enter Try.func80, Try.ntmps80
  go_upto_region 13 with (first
    | (go_at_call 56; refine (hdat.out _ (HR.out.below HB0.out)).mono ?_; rintro e w1 ⟨rfl, hb1⟩; have HB1 := Lib.hid (below_keep HB0.out (Nat.le_refl _) hb1); have hq0 := blk_keep HQ0.out hb1; obtain ⟨x0, x1, x2, x3, x4, x5, x6, x7, x8, x9, x10, x11⟩ := cells12 hq0; have HP0 := Lib.hid hq0; have HP1 := Lib.hid (blk_keep HQ1.out hb1); clear hb1 hq0)
    | (go_at_call 59; refine (hat.out _ (HR.out.below HB1.out)).mono ?_; rintro e w2 ⟨rfl, hb2⟩; have HB2 := Lib.hid (below_keep HB1.out (Nat.le_refl _) hb2); have hq0 := blk_keep HP0.out hb2; have hq1 := blk_keep HP1.out hb2; obtain ⟨x0, x1, x2, x3, x4, x5, x6, x7, x8, x9, x10, x11⟩ := cells12 hq0; obtain ⟨z0, z1, z2, z3, z4, z5, z6, z7, z8, z9, z10, z11, z12, z13, z14⟩ := cells15 hq1; obtain ⟨f0, f1, f2, f3, f4, f5, f6, f7, f8, f9, f10, f11, f12, f13, f14⟩ := frees15 hq1; have HU0 := Lib.hid hq0; have HU1 := Lib.hid hq1; clear hb2 hq0 hq1)
    | (go_at_call 64; refine (rgood_ok A c v.length d x.ind _ (by omega)).mono ?_; rw [HGZ.out]; rintro e w8 ⟨rfl, rfl⟩)
    | (go_at_call 112; refine (htk.out _ (HR.out.below HB2.out)).mono ?_; rintro e w3 ⟨g3, c3, rfl, hg3, hgs3, hb3⟩; have s2 := HB2.out.size; have HB3 := Lib.hid hb3; have HG3 := Lib.hid hg3; obtain ⟨z0, z1, z2, z3, z4, z5, z6, z7, z8, z9, z10, z11, z12, z13, z14⟩ := cells15 (blk_new w3 (.cells #[.slice (some ⟨g3, 0, none⟩) v.length c3, .int .i64 ((x.kind : Nat) : Int), .int .i64 ((x.links : Nat) : Int), .int .i64 ((x.owner : Nat) : Int), .int .i64 ((x.size : Nat) : Int), .int .i64 ((x.d0 : Nat) : Int), .int .i64 ((x.d1 : Nat) : Int), .int .i64 ((x.d2 : Nat) : Int), .int .i64 ((x.d3 : Nat) : Int), .int .i64 ((x.d4 : Nat) : Int), .int .i64 ((x.d5 : Nat) : Int), .int .i64 ((x.ind : Nat) : Int), .int .i64 ((x.ext : Nat) : Int), .int .i64 i, .int .i64 0] 114)); clear hb3 hg3))
  clear z0 z1 z2 z3 z4 z5 z6 z7 z8 z9 z10 z11 z12 z13 z14
  have s3 := HB3.out.size
  have su := blk_lt HU1.out
  have hb4 := HB3.out.alloc HB3.out.size (.cells #[.slice (some ⟨g3, 0, none⟩) v.length c3, .int .i64 ((x.kind : Nat) : Int), .int .i64 ((x.links : Nat) : Int), .int .i64 ((x.owner : Nat) : Int), .int .i64 ((x.size : Nat) : Int), .int .i64 ((x.d0 : Nat) : Int), .int .i64 ((x.d1 : Nat) : Int), .int .i64 ((x.d2 : Nat) : Int), .int .i64 ((x.d3 : Nat) : Int), .int .i64 ((x.d4 : Nat) : Int), .int .i64 ((x.d5 : Nat) : Int), .int .i64 ((x.ind : Nat) : Int), .int .i64 ((x.ext : Nat) : Int), .int .i64 i, .int .i64 0] 114)
  have hq8 := blk_new w3 (.cells #[.slice (some ⟨g3, 0, none⟩) v.length c3, .int .i64 ((x.kind : Nat) : Int), .int .i64 ((x.links : Nat) : Int), .int .i64 ((x.owner : Nat) : Int), .int .i64 ((x.size : Nat) : Int), .int .i64 ((x.d0 : Nat) : Int), .int .i64 ((x.d1 : Nat) : Int), .int .i64 ((x.d2 : Nat) : Int), .int .i64 ((x.d3 : Nat) : Int), .int .i64 ((x.d4 : Nat) : Int), .int .i64 ((x.d5 : Nat) : Int), .int .i64 ((x.ind : Nat) : Int), .int .i64 ((x.ext : Nat) : Int), .int .i64 i, .int .i64 0] 114)
  have hg4 : VS (w3.alloc (.cells #[.slice (some ⟨g3, 0, none⟩) v.length c3, .int .i64 ((x.kind : Nat) : Int), .int .i64 ((x.links : Nat) : Int), .int .i64 ((x.owner : Nat) : Int), .int .i64 ((x.size : Nat) : Int), .int .i64 ((x.d0 : Nat) : Int), .int .i64 ((x.d1 : Nat) : Int), .int .i64 ((x.d2 : Nat) : Int), .int .i64 ((x.d3 : Nat) : Int), .int .i64 ((x.d4 : Nat) : Int), .int .i64 ((x.d5 : Nat) : Int), .int .i64 ((x.ind : Nat) : Int), .int .i64 ((x.ext : Nat) : Int), .int .i64 i, .int .i64 0] 114)) g3 V1 := HG3.out.keep ((Below.refl _ _).alloc (Nat.le_refl _) _)
  have sg := HG3.out.lt
  generalize w3.alloc (.cells #[.slice (some ⟨g3, 0, none⟩) v.length c3, .int .i64 ((x.kind : Nat) : Int), .int .i64 ((x.links : Nat) : Int), .int .i64 ((x.owner : Nat) : Int), .int .i64 ((x.size : Nat) : Int), .int .i64 ((x.d0 : Nat) : Int), .int .i64 ((x.d1 : Nat) : Int), .int .i64 ((x.d2 : Nat) : Int), .int .i64 ((x.d3 : Nat) : Int), .int .i64 ((x.d4 : Nat) : Int), .int .i64 ((x.d5 : Nat) : Int), .int .i64 ((x.ind : Nat) : Int), .int .i64 ((x.ext : Nat) : Int), .int .i64 i, .int .i64 0] 114) = W3 at *
  generalize w3.heap.size = q8 at *
  obtain ⟨j0, j1_, j2, j3, j4, j5, j6, j7, j8, j9, j10, j11, j12, j13, j14⟩ := cells15 hq8
  have hx4 := blk_keep HU0.out hb4
  obtain ⟨x0, x1, x2, x3, x4, x5, x6, x7, x8, x9, x10, x11⟩ := cells12 hx4
  obtain ⟨fx0, fx1, fx2, fx3, fx4, fx5, fx6, fx7, fx8, fx9, fx10, fx11⟩ := frees12 hx4
  have HX4 := Lib.hid hx4
  have HQ8 := Lib.hid hq8
  have HG4 := Lib.hid hg4
  have HU3 := Lib.hid (blk_keep HU1.out hb4)
  have HB4' := Lib.hid (below_keep HB2.out (Nat.le_refl _) hb4)
  have s4' := hb4.size
  clear hq8 hb4 hg4 hx4
  refine region_P (fun w' => w'.cell? ⟨q8, 0, none⟩ = some (.slice (some ⟨g3, 0, none⟩) v.length c3) ∧ w'.cell? ⟨q8, 1, none⟩ = some (.int .i64 ((x.kind : Nat) : Int)) ∧ w'.cell? ⟨q8, 2, none⟩ = some (.int .i64 ((x.links : Nat) : Int)) ∧ w'.cell? ⟨q8, 3, none⟩ = some (.int .i64 ((x.owner : Nat) : Int)) ∧ w'.cell? ⟨q8, 4, none⟩ = some (.int .i64 ((x.size : Nat) : Int)) ∧ w'.cell? ⟨q8, 5, none⟩ = some (.int .i64 ((x.d0 : Nat) : Int)) ∧ w'.cell? ⟨q8, 6, none⟩ = some (.int .i64 ((x.d1 : Nat) : Int)) ∧ w'.cell? ⟨q8, 7, none⟩ = some (.int .i64 ((x.d2 : Nat) : Int)) ∧ w'.cell? ⟨q8, 8, none⟩ = some (.int .i64 ((x.d3 : Nat) : Int)) ∧ w'.cell? ⟨q8, 9, none⟩ = some (.int .i64 ((x.d4 : Nat) : Int)) ∧ w'.cell? ⟨q8, 10, none⟩ = some (.int .i64 ((x.d5 : Nat) : Int)) ∧ w'.cell? ⟨q8, 11, none⟩ = some (.int .i64 ((x.ind : Nat) : Int)) ∧ w'.cell? ⟨q8, 12, none⟩ = some (.int .i64 ((x.ext : Nat) : Int))) [5] (by kernel_rfl) ?_ (fun hHeld => ?_)
  · exact ⟨j0, j1_, j2, j3, j4, j5, j6, j7, j8, j9, j10, j11, j12⟩
  refine wpP_take (i := 0) (oi := ?oi613001) (v := ?v613001) ?hi613001 (by kernel_rfl) (by kernel_rfl) (by kernel_rfl) (by kernel_rfl) ?hQ613001 ?hy613001 (by assumption) ?rest613001
  case hi613001 => (simp only [List.getElem?_toArray, List.getElem?_cons_succ, List.getElem?_cons_zero]; exact rfl)
  case hQ613001 => exact fun _ _ _ h => h
  case hy613001 => (refine Or.inl ⟨by kernel_rfl, ?_⟩; intro w hSw; (try dsimp only at hSw); go_simp; try (with_reducible rfl))
  try simp only [Act.put, List.setIfInBounds_toArray, List.set_cons_zero, List.set_cons_succ]
  refine wpP_take (i := 1) (oi := ?oi613002) (v := ?v613002) ?hi613002 (by kernel_rfl) (by kernel_rfl) (by kernel_rfl) (by kernel_rfl) ?hQ613002 ?hy613002 (by assumption) ?rest613002
  case hi613002 => (simp only [List.getElem?_toArray, List.getElem?_cons_succ, List.getElem?_cons_zero]; exact rfl)
  case hQ613002 => exact fun _ _ _ h => h
  case hy613002 => (refine Or.inl ⟨by kernel_rfl, ?_⟩; intro w hSw; (try dsimp only at hSw); go_simp; try (with_reducible rfl))
  try simp only [Act.put, List.setIfInBounds_toArray, List.set_cons_zero, List.set_cons_succ]
  refine wpP_take (i := 2) (oi := ?oi613003) (v := ?v613003) ?hi613003 (by kernel_rfl) (by kernel_rfl) (by kernel_rfl) (by kernel_rfl) ?hQ613003 ?hy613003 (by assumption) ?rest613003
  case hi613003 => (simp only [List.getElem?_toArray, List.getElem?_cons_succ, List.getElem?_cons_zero]; exact rfl)
  case hQ613003 => exact fun _ _ _ h => h
  case hy613003 => (refine Or.inl ⟨by kernel_rfl, ?_⟩; intro w hSw; (try dsimp only at hSw); go_simp; try (with_reducible rfl))
  try simp only [Act.put, List.setIfInBounds_toArray, List.set_cons_zero, List.set_cons_succ]
  refine wpP_take (i := 3) (oi := ?oi613004) (v := ?v613004) ?hi613004 (by kernel_rfl) (by kernel_rfl) (by kernel_rfl) (by kernel_rfl) ?hQ613004 ?hy613004 (by assumption) ?rest613004
  case hi613004 => (simp only [List.getElem?_toArray, List.getElem?_cons_succ, List.getElem?_cons_zero]; exact rfl)
  case hQ613004 => exact fun _ _ _ h => h
  case hy613004 => (refine Or.inl ⟨by kernel_rfl, ?_⟩; intro w hSw; (try dsimp only at hSw); go_simp; try (with_reducible rfl))
  try simp only [Act.put, List.setIfInBounds_toArray, List.set_cons_zero, List.set_cons_succ]
  refine wpP_take (i := 4) (oi := ?oi613005) (v := ?v613005) ?hi613005 (by kernel_rfl) (by kernel_rfl) (by kernel_rfl) (by kernel_rfl) ?hQ613005 ?hy613005 (by assumption) ?rest613005
  case hi613005 => (simp only [List.getElem?_toArray, List.getElem?_cons_succ, List.getElem?_cons_zero]; exact rfl)
  case hQ613005 => exact fun _ _ _ h => h
  case hy613005 => (refine Or.inl ⟨by kernel_rfl, ?_⟩; intro w hSw; (try dsimp only at hSw); go_simp; try (with_reducible rfl))
  try simp only [Act.put, List.setIfInBounds_toArray, List.set_cons_zero, List.set_cons_succ]
  refine wpP_ready (rs := [5]) (by kernel_rfl) (by simp) ?_
  refine AllP.last (o := ?o613006) ?ho613006 (by kernel_rfl) (fun K hK => ?_) AllP.nil
  case ho613006 => (simp only [List.getElem?_toArray, List.getElem?_cons_succ, List.getElem?_cons_zero]; exact rfl)
  go_simp
  refine hK.out _ _ ?_
  clear hK K
  try simp only [Act.put, List.setIfInBounds_toArray, List.set_cons_zero, List.set_cons_succ]
  refine wpP_done (by kernel_rfl) ?_ _
  have hxs : ((((((((((((W3.setCell ⟨w.heap.size, 0, none⟩ (.int .i64 ((x.kind : Nat) : Int))).setCell ⟨w.heap.size, 1, none⟩ (.int .i64 ((x.links : Nat) : Int))).setCell ⟨w.heap.size, 2, none⟩ (.int .i64 ((x.owner : Nat) : Int))).setCell ⟨w.heap.size, 3, none⟩ (.int .i64 ((x.size : Nat) : Int))).setCell ⟨w.heap.size, 4, none⟩ (.int .i64 ((x.d0 : Nat) : Int))).setCell ⟨w.heap.size, 5, none⟩ (.int .i64 ((x.d1 : Nat) : Int))).setCell ⟨w.heap.size, 6, none⟩ (.int .i64 ((x.d2 : Nat) : Int))).setCell ⟨w.heap.size, 7, none⟩ (.int .i64 ((x.d3 : Nat) : Int))).setCell ⟨w.heap.size, 8, none⟩ (.int .i64 ((x.d4 : Nat) : Int))).setCell ⟨w.heap.size, 9, none⟩ (.int .i64 ((x.d5 : Nat) : Int))).setCell ⟨w.heap.size, 10, none⟩ (.int .i64 ((x.ind : Nat) : Int))).setCell ⟨w.heap.size, 11, none⟩ (.int .i64 ((x.ext : Nat) : Int))).drew.heap[w.heap.size]? = some (.cells #[.int .i64 ((x.kind : Nat) : Int), .int .i64 ((x.links : Nat) : Int), .int .i64 ((x.owner : Nat) : Int), .int .i64 ((x.size : Nat) : Int), .int .i64 ((x.d0 : Nat) : Int), .int .i64 ((x.d1 : Nat) : Int), .int .i64 ((x.d2 : Nat) : Int), .int .i64 ((x.d3 : Nat) : Int), .int .i64 ((x.d4 : Nat) : Int), .int .i64 ((x.d5 : Nat) : Int), .int .i64 ((x.ind : Nat) : Int), .int .i64 ((x.ext : Nat) : Int)] 45 (0, 0)) := by rw [drew_heap]; exact blk_set12 HX4.out
  have hq8s : ((((((((((((W3.setCell ⟨w.heap.size, 0, none⟩ (.int .i64 ((x.kind : Nat) : Int))).setCell ⟨w.heap.size, 1, none⟩ (.int .i64 ((x.links : Nat) : Int))).setCell ⟨w.heap.size, 2, none⟩ (.int .i64 ((x.owner : Nat) : Int))).setCell ⟨w.heap.size, 3, none⟩ (.int .i64 ((x.size : Nat) : Int))).setCell ⟨w.heap.size, 4, none⟩ (.int .i64 ((x.d0 : Nat) : Int))).setCell ⟨w.heap.size, 5, none⟩ (.int .i64 ((x.d1 : Nat) : Int))).setCell ⟨w.heap.size, 6, none⟩ (.int .i64 ((x.d2 : Nat) : Int))).setCell ⟨w.heap.size, 7, none⟩ (.int .i64 ((x.d3 : Nat) : Int))).setCell ⟨w.heap.size, 8, none⟩ (.int .i64 ((x.d4 : Nat) : Int))).setCell ⟨w.heap.size, 9, none⟩ (.int .i64 ((x.d5 : Nat) : Int))).setCell ⟨w.heap.size, 10, none⟩ (.int .i64 ((x.ind : Nat) : Int))).setCell ⟨w.heap.size, 11, none⟩ (.int .i64 ((x.ext : Nat) : Int))).drew.heap[q8]? = some (.cells #[.slice (some ⟨g3, 0, none⟩) v.length c3, .int .i64 ((x.kind : Nat) : Int), .int .i64 ((x.links : Nat) : Int), .int .i64 ((x.owner : Nat) : Int), .int .i64 ((x.size : Nat) : Int), .int .i64 ((x.d0 : Nat) : Int), .int .i64 ((x.d1 : Nat) : Int), .int .i64 ((x.d2 : Nat) : Int), .int .i64 ((x.d3 : Nat) : Int), .int .i64 ((x.d4 : Nat) : Int), .int .i64 ((x.d5 : Nat) : Int), .int .i64 ((x.ind : Nat) : Int), .int .i64 ((x.ext : Nat) : Int), .int .i64 i, .int .i64 0] 114 (0, 0)) := by rw [drew_heap]; exact heap_set12 HQ8.out (show q8 ≠ w.heap.size by omega)
  have hu3s : ((((((((((((W3.setCell ⟨w.heap.size, 0, none⟩ (.int .i64 ((x.kind : Nat) : Int))).setCell ⟨w.heap.size, 1, none⟩ (.int .i64 ((x.links : Nat) : Int))).setCell ⟨w.heap.size, 2, none⟩ (.int .i64 ((x.owner : Nat) : Int))).setCell ⟨w.heap.size, 3, none⟩ (.int .i64 ((x.size : Nat) : Int))).setCell ⟨w.heap.size, 4, none⟩ (.int .i64 ((x.d0 : Nat) : Int))).setCell ⟨w.heap.size, 5, none⟩ (.int .i64 ((x.d1 : Nat) : Int))).setCell ⟨w.heap.size, 6, none⟩ (.int .i64 ((x.d2 : Nat) : Int))).setCell ⟨w.heap.size, 7, none⟩ (.int .i64 ((x.d3 : Nat) : Int))).setCell ⟨w.heap.size, 8, none⟩ (.int .i64 ((x.d4 : Nat) : Int))).setCell ⟨w.heap.size, 9, none⟩ (.int .i64 ((x.d5 : Nat) : Int))).setCell ⟨w.heap.size, 10, none⟩ (.int .i64 ((x.ind : Nat) : Int))).setCell ⟨w.heap.size, 11, none⟩ (.int .i64 ((x.ext : Nat) : Int))).drew.heap[w.heap.size + 1]? = some (.cells zeroP 114 (0, 0)) := by rw [drew_heap]; exact heap_set12 HU3.out (show w.heap.size + 1 ≠ w.heap.size by omega)
  have hb4s : Below w.heap.size w ((((((((((((W3.setCell ⟨w.heap.size, 0, none⟩ (.int .i64 ((x.kind : Nat) : Int))).setCell ⟨w.heap.size, 1, none⟩ (.int .i64 ((x.links : Nat) : Int))).setCell ⟨w.heap.size, 2, none⟩ (.int .i64 ((x.owner : Nat) : Int))).setCell ⟨w.heap.size, 3, none⟩ (.int .i64 ((x.size : Nat) : Int))).setCell ⟨w.heap.size, 4, none⟩ (.int .i64 ((x.d0 : Nat) : Int))).setCell ⟨w.heap.size, 5, none⟩ (.int .i64 ((x.d1 : Nat) : Int))).setCell ⟨w.heap.size, 6, none⟩ (.int .i64 ((x.d2 : Nat) : Int))).setCell ⟨w.heap.size, 7, none⟩ (.int .i64 ((x.d3 : Nat) : Int))).setCell ⟨w.heap.size, 8, none⟩ (.int .i64 ((x.d4 : Nat) : Int))).setCell ⟨w.heap.size, 9, none⟩ (.int .i64 ((x.d5 : Nat) : Int))).setCell ⟨w.heap.size, 10, none⟩ (.int .i64 ((x.ind : Nat) : Int))).setCell ⟨w.heap.size, 11, none⟩ (.int .i64 ((x.ext : Nat) : Int))).drew := (below_set12 HB4'.out (show w.heap.size ≤ w.heap.size from Nat.le_refl _)).drew
  have hg4s : VS ((((((((((((W3.setCell ⟨w.heap.size, 0, none⟩ (.int .i64 ((x.kind : Nat) : Int))).setCell ⟨w.heap.size, 1, none⟩ (.int .i64 ((x.links : Nat) : Int))).setCell ⟨w.heap.size, 2, none⟩ (.int .i64 ((x.owner : Nat) : Int))).setCell ⟨w.heap.size, 3, none⟩ (.int .i64 ((x.size : Nat) : Int))).setCell ⟨w.heap.size, 4, none⟩ (.int .i64 ((x.d0 : Nat) : Int))).setCell ⟨w.heap.size, 5, none⟩ (.int .i64 ((x.d1 : Nat) : Int))).setCell ⟨w.heap.size, 6, none⟩ (.int .i64 ((x.d2 : Nat) : Int))).setCell ⟨w.heap.size, 7, none⟩ (.int .i64 ((x.d3 : Nat) : Int))).setCell ⟨w.heap.size, 8, none⟩ (.int .i64 ((x.d4 : Nat) : Int))).setCell ⟨w.heap.size, 9, none⟩ (.int .i64 ((x.d5 : Nat) : Int))).setCell ⟨w.heap.size, 10, none⟩ (.int .i64 ((x.ind : Nat) : Int))).setCell ⟨w.heap.size, 11, none⟩ (.int .i64 ((x.ext : Nat) : Int))).drew g3 V1 := by
    obtain ⟨cur, hg, hc⟩ := HG4.out
    exact ⟨cur, by rw [drew_heap]; exact heap_set12 hg (show g3 ≠ w.heap.size by omega), hc⟩
  have hss : ((((((((((((W3.setCell ⟨w.heap.size, 0, none⟩ (.int .i64 ((x.kind : Nat) : Int))).setCell ⟨w.heap.size, 1, none⟩ (.int .i64 ((x.links : Nat) : Int))).setCell ⟨w.heap.size, 2, none⟩ (.int .i64 ((x.owner : Nat) : Int))).setCell ⟨w.heap.size, 3, none⟩ (.int .i64 ((x.size : Nat) : Int))).setCell ⟨w.heap.size, 4, none⟩ (.int .i64 ((x.d0 : Nat) : Int))).setCell ⟨w.heap.size, 5, none⟩ (.int .i64 ((x.d1 : Nat) : Int))).setCell ⟨w.heap.size, 6, none⟩ (.int .i64 ((x.d2 : Nat) : Int))).setCell ⟨w.heap.size, 7, none⟩ (.int .i64 ((x.d3 : Nat) : Int))).setCell ⟨w.heap.size, 8, none⟩ (.int .i64 ((x.d4 : Nat) : Int))).setCell ⟨w.heap.size, 9, none⟩ (.int .i64 ((x.d5 : Nat) : Int))).setCell ⟨w.heap.size, 10, none⟩ (.int .i64 ((x.ind : Nat) : Int))).setCell ⟨w.heap.size, 11, none⟩ (.int .i64 ((x.ext : Nat) : Int))).drew.heap.size = W3.heap.size := by
    rw [drew_heap]
    simp only [World.size_setCell]
  have sq8 := blk_lt HQ8.out
  clear x0 x1 x2 x3 x4 x5 x6 x7 x8 x9 x10 x11 fx0 fx1 fx2 fx3 fx4 fx5 fx6 fx7 fx8 fx9 fx10 fx11 j0 j1_ j2 j3 j4 j5 j6 j7 j8 j9 j10 j11 j12 j13 j14 hHeld
  generalize ((((((((((((W3.setCell ⟨w.heap.size, 0, none⟩ (.int .i64 ((x.kind : Nat) : Int))).setCell ⟨w.heap.size, 1, none⟩ (.int .i64 ((x.links : Nat) : Int))).setCell ⟨w.heap.size, 2, none⟩ (.int .i64 ((x.owner : Nat) : Int))).setCell ⟨w.heap.size, 3, none⟩ (.int .i64 ((x.size : Nat) : Int))).setCell ⟨w.heap.size, 4, none⟩ (.int .i64 ((x.d0 : Nat) : Int))).setCell ⟨w.heap.size, 5, none⟩ (.int .i64 ((x.d1 : Nat) : Int))).setCell ⟨w.heap.size, 6, none⟩ (.int .i64 ((x.d2 : Nat) : Int))).setCell ⟨w.heap.size, 7, none⟩ (.int .i64 ((x.d3 : Nat) : Int))).setCell ⟨w.heap.size, 8, none⟩ (.int .i64 ((x.d4 : Nat) : Int))).setCell ⟨w.heap.size, 9, none⟩ (.int .i64 ((x.d5 : Nat) : Int))).setCell ⟨w.heap.size, 10, none⟩ (.int .i64 ((x.ind : Nat) : Int))).setCell ⟨w.heap.size, 11, none⟩ (.int .i64 ((x.ext : Nat) : Int))).drew = W5 at *
  obtain ⟨j0, j1_, j2, j3, j4, j5, j6, j7, j8, j9, j10, j11, j12, j13, j14⟩ := cells15 hq8s
  have i13 := j13
  have f10 := free_of hxs 10
  have c10 : W5.cell? ⟨w.heap.size, 10, none⟩ = some (.int .i64 x.ind) := by rw [cell_at hxs]; rfl
  have hx6 : (W5.setCell ⟨w.heap.size, 10, none⟩ (.int .i64 i)).heap[w.heap.size]? = some (.cells #[.int .i64 (((x.setI i).kind : Nat) : Int), .int .i64 (((x.setI i).links : Nat) : Int), .int .i64 (((x.setI i).owner : Nat) : Int), .int .i64 (((x.setI i).size : Nat) : Int), .int .i64 (((x.setI i).d0 : Nat) : Int), .int .i64 (((x.setI i).d1 : Nat) : Int), .int .i64 (((x.setI i).d2 : Nat) : Int), .int .i64 (((x.setI i).d3 : Nat) : Int), .int .i64 (((x.setI i).d4 : Nat) : Int), .int .i64 (((x.setI i).d5 : Nat) : Int), .int .i64 (((x.setI i).ind : Nat) : Int), .int .i64 (((x.setI i).ext : Nat) : Int)] 45 (0, 0)) := blk_set hxs 10 (.int .i64 i)
  have hu6 := blk_set_other hu3s (show w.heap.size + 1 ≠ w.heap.size by omega) 10 (.int .i64 i)
  have hb6 := below_set hb4s (show w.heap.size ≤ w.heap.size from Nat.le_refl _) (i := 10) (u := .int .i64 i)
  have hg6 := hg4s.other (show g3 ≠ w.heap.size by omega) (i := 10) (u := .int .i64 i)
  have hs6 : (W5.setCell ⟨w.heap.size, 10, none⟩ (.int .i64 i)).heap.size = W5.heap.size := by simp
  obtain ⟨x0, x1, x2, x3, x4, x5, x6, x7, x8, x9, x10, x11⟩ := cells12 hx6
  have HU0 := Lib.hid hx6
  have HU1 := Lib.hid hu6
  have HB6 := Lib.hid hb6
  have HRV6 := Lib.hid (hg6.rs (by rw [HT1.out]; omega))
  clear j0 j1_ j2 j3 j4 j5 j6 j7 j8 j9 j10 j11 j12 j13 j14 hxs hq8s hu3s hb4s hg4s hx6 hu6 hb6 hg6
  go_wp2_with (go_at_call 112; refine (HTK2.out _ _ _ HRV6.out).mono ?_; rintro e w3 ⟨rfl, hb3⟩; have hb4 := hb3.alloc hb3.size (.cells #[.slice none 0 0, .int .i64 0, .int .i64 0, .int .i64 0, .int .i64 0, .int .i64 0, .int .i64 0, .int .i64 0, .int .i64 0, .int .i64 0, .int .i64 0, .int .i64 0, .int .i64 0, .int .i64 0, .int .i64 10] 114); obtain ⟨z0, z1, z2, z3, z4, z5, z6, z7, z8, z9, z10, z11, z12, z13, z14⟩ := cells15 (blk_new w3 (.cells #[.slice none 0 0, .int .i64 0, .int .i64 0, .int .i64 0, .int .i64 0, .int .i64 0, .int .i64 0, .int .i64 0, .int .i64 0, .int .i64 0, .int .i64 0, .int .i64 0, .int .i64 0, .int .i64 0, .int .i64 10] 114)); have hu1 := blk_keep HU1.out hb4; obtain ⟨fr0, fr1, fr2, fr3, fr4, fr5, fr6, fr7, fr8, fr9, fr10, fr11, fr12, fr13, fr14⟩ := frees15 hu1; obtain ⟨u0, u1, u2, u3, u4, u5, u6, u7, u8, u9, u10, u11, u12, u13, u14⟩ := cells15 hu1; have HU2 := Lib.hid hu1; have HB7 := Lib.hid (below_keep HB6.out (Nat.le_refl _) hb4); clear hb3 hu1 hb4)
  have hbf := blk_set15 (a0 := .slice none 0 0) (a1 := .int .i64 0) (a2 := .int .i64 0) (a3 := .int .i64 0) (a4 := .int .i64 0) (a5 := .int .i64 0) (a6 := .int .i64 0) (a7 := .int .i64 0) (a8 := .int .i64 0) (a9 := .int .i64 0) (a10 := .int .i64 0) (a11 := .int .i64 0) (a12 := .int .i64 0) (a13 := .int .i64 0) (a14 := .int .i64 10) HU2.out
  obtain ⟨r0, r1, r2, r3, r4, r5, r6, r7, r8, r9, r10, r11, r12, r13, r14⟩ := cells15 hbf
  refine bodyPost_ret (v := .agg #[.slice none 0 0, .int .i64 0, .int .i64 0, .int .i64 0, .int .i64 0, .int .i64 0, .int .i64 0, .int .i64 0, .int .i64 0, .int .i64 0, .int .i64 0, .int .i64 0, .int .i64 0, .int .i64 0, .int .i64 10]) (by simp [results, Try.results80, go_sem, r0, r1, r2, r3, r4, r5, r6, r7, r8, r9, r10, r11, r12, r13, r14]) rfl ?_
  exact ⟨rfl, below_set15 HB7.out (by omega)⟩
theorem nameV_far {d : Nat} {v : Vol} {x : Ino} {k b : Nat} (hk : 6 ≤ k) (hg : goodN d v.length x.ind = true) : nameV d v x k b = v.set x.ind (put2 (bk v x.ind) (2 * (k - 6)) b) ∧ nameX x k b = x := by
  rw [nameV, if_neg (by omega), if_pos hg, nameX, if_neg (by omega)]
  exact ⟨rfl, rfl⟩
/-- A block is placed: what comes back reads as the volume, whatever memory it lies in. -/
theorem rplace_ok (A : Option Addr) (c : Nat) (v : Vol) (x : Ino) (k b : Nat) (v' : Vol) (x' : Ino) (w : World) (hr : RS w A v) (hv : okV v = true) (hk : k < 70) (h : placeV v x k = some (b, v', x')) :
    Calls Try.prog 80 #[.slice A v.length c, .agg #[.int .i64 ((x.kind : Nat) : Int), .int .i64 ((x.links : Nat) : Int), .int .i64 ((x.owner : Nat) : Int), .int .i64 ((x.size : Nat) : Int), .int .i64 ((x.d0 : Nat) : Int), .int .i64 ((x.d1 : Nat) : Int), .int .i64 ((x.d2 : Nat) : Int), .int .i64 ((x.d3 : Nat) : Int), .int .i64 ((x.d4 : Nat) : Int), .int .i64 ((x.d5 : Nat) : Int), .int .i64 ((x.ind : Nat) : Int), .int .i64 ((x.ext : Nat) : Int)], .int .i64 k] w fun e w' => ∃ A' c', e = .returned (.agg #[.slice A' v.length c', .int .i64 ((x'.kind : Nat) : Int), .int .i64 ((x'.links : Nat) : Int), .int .i64 ((x'.owner : Nat) : Int), .int .i64 ((x'.size : Nat) : Int), .int .i64 ((x'.d0 : Nat) : Int), .int .i64 ((x'.d1 : Nat) : Int), .int .i64 ((x'.d2 : Nat) : Int), .int .i64 ((x'.d3 : Nat) : Int), .int .i64 ((x'.d4 : Nat) : Int), .int .i64 ((x'.d5 : Nat) : Int), .int .i64 ((x'.ind : Nat) : Int), .int .i64 ((x'.ext : Nat) : Int), .int .i64 b, .int .i64 0]) ∧ RS w' A' v' ∧ Below w.heap.size w w' := by
  have hhi := (okV_iff.1 hv).hi
  unfold placeV at h
  split at h
  · rename_i h0
    split at h
    · rename_i hg
      split at h
      · cases h
      · rename_i i hi
        cases h
        obtain ⟨f1, f2, _⟩ := freeB_some hi
        have hkt := kept_tookV hv f1 f2
        by_cases hk6 : k < 6
        · rw [nameV, if_pos hk6, nameX, if_pos hk6]
          refine (rplace_near A c v x k b w hr hv hk6 h0 hi).mono ?_
          rintro e w' ⟨g, c', rfl, hg', hgs, hb⟩
          exact ⟨_, _, rfl, hg'.rs (by rw [hkt.len]; omega), hb⟩
        · have hgd := hg.resolve_left hk6
          obtain ⟨e1, e2⟩ := nameV_far (d := dataV v) (v := tookV v b) (x := x) (k := k) (b := b) (by omega) (by rw [hkt.len]; exact hgd)
          rw [e1, e2]
          refine (rplace_far A c v x k b w hr hv (by omega) hk h0 hgd hi).mono ?_
          rintro e w' ⟨g, c', rfl, hg', hgs, hb⟩
          exact ⟨_, _, rfl, hg'.rs (by rw [List.length_set, hkt.len]; omega), hb⟩
    · rename_i hg
      rw [not_or, Bool.not_eq_true] at hg
      split at h
      · cases h
      · rename_i i hi
        split at h
        · cases h
        · rename_i j hj
          cases h
          obtain ⟨f1, f2, _⟩ := freeB_some hi
          have hkt := kept_tookV hv f1 f2
          obtain ⟨f3, f4, _⟩ := freeB_some hj
          have hkt2 := kept_tookV hkt.ok f3 f4
          have hl2 := hkt2.len.trans hkt.len
          obtain ⟨e1, e2⟩ := nameV_far (d := dataV v) (v := tookV (tookV v i) b) (x := x.setI i) (k := k) (b := b) (by omega) (goodN_iff.2 ⟨f1, by rw [hl2]; exact f2⟩)
          rw [e1, e2]
          refine (rplace_two A c v x k i b w hr hv (by omega) hk h0 hg.2 hi hj).mono ?_
          rintro e w' ⟨g, c', rfl, hg', hgs, hb⟩
          exact ⟨_, _, rfl, hg'.rs (by rw [List.length_set, hl2]; omega), hb⟩
  · rename_i hne
    cases h
    refine (rplace_is A c v x k _ w hr hv hk rfl hne).mono ?_
    rintro e w' ⟨rfl, hb⟩
    exact ⟨_, _, rfl, hr.below hb, hb⟩
theorem rplace_full (A : Option Addr) (c : Nat) (v : Vol) (x : Ino) (k : Nat) (w : World) (hr : RS w A v) (hv : okV v = true) (hk : k < 70) (h : placeV v x k = none) :
    Calls Try.prog 80 #[.slice A v.length c, .agg #[.int .i64 ((x.kind : Nat) : Int), .int .i64 ((x.links : Nat) : Int), .int .i64 ((x.owner : Nat) : Int), .int .i64 ((x.size : Nat) : Int), .int .i64 ((x.d0 : Nat) : Int), .int .i64 ((x.d1 : Nat) : Int), .int .i64 ((x.d2 : Nat) : Int), .int .i64 ((x.d3 : Nat) : Int), .int .i64 ((x.d4 : Nat) : Int), .int .i64 ((x.d5 : Nat) : Int), .int .i64 ((x.ind : Nat) : Int), .int .i64 ((x.ext : Nat) : Int)], .int .i64 k] w fun e w' => e = .returned (.agg #[.slice none 0 0, .int .i64 0, .int .i64 0, .int .i64 0, .int .i64 0, .int .i64 0, .int .i64 0, .int .i64 0, .int .i64 0, .int .i64 0, .int .i64 0, .int .i64 0, .int .i64 0, .int .i64 0, .int .i64 10]) ∧ Below w.heap.size w w' := by
  unfold placeV at h
  split at h
  · rename_i h0
    have hone : freeB v = none → Calls Try.prog 80 #[.slice A v.length c, .agg #[.int .i64 ((x.kind : Nat) : Int), .int .i64 ((x.links : Nat) : Int), .int .i64 ((x.owner : Nat) : Int), .int .i64 ((x.size : Nat) : Int), .int .i64 ((x.d0 : Nat) : Int), .int .i64 ((x.d1 : Nat) : Int), .int .i64 ((x.d2 : Nat) : Int), .int .i64 ((x.d3 : Nat) : Int), .int .i64 ((x.d4 : Nat) : Int), .int .i64 ((x.d5 : Nat) : Int), .int .i64 ((x.ind : Nat) : Int), .int .i64 ((x.ext : Nat) : Int)], .int .i64 k] w fun e w' => e = .returned (.agg #[.slice none 0 0, .int .i64 0, .int .i64 0, .int .i64 0, .int .i64 0, .int .i64 0, .int .i64 0, .int .i64 0, .int .i64 0, .int .i64 0, .int .i64 0, .int .i64 0, .int .i64 0, .int .i64 0, .int .i64 10]) ∧ Below w.heap.size w w' := fun hi => by
      by_cases hk6 : k < 6
      · exact rplace_full_near A c v x k w hr hv hk h0 hk6 hi
      · exact rplace_full_far A c v x k w hr hv hk h0 (by omega) hi
    split at h
    · rename_i hg
      split at h
      · rename_i hi
        exact hone hi
      · cases h
    · rename_i hg
      rw [not_or, Bool.not_eq_true] at hg
      split at h
      · rename_i hi
        exact hone hi
      · rename_i i hi
        split at h
        · rename_i hj
          exact rplace_full_two A c v x k i w hr hv hk h0 (by omega) hg.2 hi hj
        · cases h
  · cases h
end Go.Proofs.Ytacdohlhalnioaa
end

/- Contracts: the document's two bytes of a number, and whether a number is within a bound, and whether an inode fits. -/
section
set_option linter.unusedVariables false
set_option linter.unusedSimpArgs false
set_option maxRecDepth 20000
namespace Go.Proofs.Ytacdohlhalnioaa
open Go.RowKit
attribute [local go_sem] Oper.semAt_some

set_option maxHeartbeats 1000000 in
theorem two18_ok (m : Nat) (w : World) (hm : m < 4294967296) :
    Calls Try.prog 132 #[.int .i64 m] w fun e w' => e = .returned (.string (mk (ple m 2))) ∧ Below w.heap.size w w' := by
  have hpm := ple_length m 2
  have hg0 := gb_ple m 2 0 (by omega)
  have hg1 := gb_ple m 2 1 (by omega)
  obtain ⟨pm, hp2⟩ : ∃ pm, ple m 2 = pm := ⟨_, rfl⟩
  rw [hp2] at hpm hg0 hg1 ⊢
  obtain ⟨r0, hr0⟩ : ∃ r0, m % 256 = r0 := ⟨_, rfl⟩
  obtain ⟨q0, hq0⟩ : ∃ q0, m / 256 % 256 = q0 := ⟨_, rfl⟩
  have hgr : gb pm 0 = r0 := by rw [hg0]; simpa using hr0
  have hgq : gb pm 1 = q0 := by rw [hg1]; simpa using hq0
  have hrm : (m : Int).tmod 256 = (r0 : Int) := by rw [Int.tmod_eq_emod_of_nonneg (by omega)]; omega
  have hqm : ((m : Int) / 256).tmod 256 = (q0 : Int) := by rw [Int.tmod_eq_emod_of_nonneg (by omega)]; omega
  have hwq : IntKind.i64.wrap ((m : Int) / 256) = (m : Int) / 256 := by simp [IntKind.wrap, IntKind.bits, IntKind.signed]; omega
  have hwu0 : IntKind.u8.wrap (r0 : Int) = (r0 : Int) := by rw [wrap_u8]; omega
  have hwu1 : IntKind.u8.wrap (q0 : Int) = (q0 : Int) := by rw [wrap_u8]; omega
  have hst : (convert 62 9 (.slice (some ⟨w.heap.size, 0, none⟩) 2 2)).run Try.prog (w.alloc (.cells #[.int .u8 r0, .int .u8 q0] 5)) = .ok (.string (mk pm)) (w.alloc (.cells #[.int .u8 r0, .int .u8 q0] 5)) := str_of_u8 _ w.heap.size 0 2 2 pm hpm (fun j hj => by
    rw [Nat.zero_add]
    rw [cell_at (blk_new w _)]
    rcases (by omega : j = 0 ∨ j = 1) with rfl | rfl
    · rw [hgr]; rfl
    · rw [hgq]; rfl)
  clear hp2 hr0 hq0 hg0 hg1
  go_enter Try.func132, Try.ntmps132
  go_wp2
  go_ret
  exact ⟨rfl, (Below.refl w.heap.size w).alloc (Nat.le_refl _) _⟩
theorem within_ok (n : Nat) (j : Int) (w : World) (h1 : (n : Int) ≤ j) :
    Calls Try.prog 131 #[.int .i64 n, .int .i64 j] w fun e w' => e = .returned (.bool true) ∧ w = w' := by
  have h0 : (0 : Int) ≤ (n : Int) := by omega
  go_enter Try.func131, Try.ntmps131
  go_wp2
  go_ret
  exact ⟨rfl, rfl⟩
end Go.Proofs.Ytacdohlhalnioaa
end

/- Contract: an inode fits (the document's). -/
section
set_option linter.unusedVariables false
set_option linter.unusedSimpArgs false
set_option maxRecDepth 20000
namespace Go.Proofs.Ytacdohlhalnioaa
open Go.RowKit
attribute [local go_sem] Oper.semAt_some

theorem dir_lt {x : Ino} (hx : fitI x) (k : Nat) (hk : k < 6) : x.list.getD (4 + k) 0 < 65536 := by
  obtain ⟨h0, h1, h2, h3, h4, h5, h6, h7, h8, h9, h10, h11⟩ := fitI_iff.1 hx
  rcases (by omega : k = 0 ∨ k = 1 ∨ k = 2 ∨ k = 3 ∨ k = 4 ∨ k = 5) with rfl | rfl | rfl | rfl | rfl | rfl <;> assumption
set_option maxHeartbeats 1000000 in
theorem rfits_ok (x : Ino) (w : World) (hx : fitI x) :
    Calls Try.prog 114 #[.agg #[.int .i64 ((x.kind : Nat) : Int), .int .i64 ((x.links : Nat) : Int), .int .i64 ((x.owner : Nat) : Int), .int .i64 ((x.size : Nat) : Int), .int .i64 ((x.d0 : Nat) : Int), .int .i64 ((x.d1 : Nat) : Int), .int .i64 ((x.d2 : Nat) : Int), .int .i64 ((x.d3 : Nat) : Int), .int .i64 ((x.d4 : Nat) : Int), .int .i64 ((x.d5 : Nat) : Int), .int .i64 ((x.ind : Nat) : Int), .int .i64 ((x.ext : Nat) : Int)]] w fun e w' => e = .returned (.bool true) ∧ Below w.heap.size w w' := by
  have k0 := blk_new w (.cells (xcells x.list) 45)
  have hB1 : Below w.heap.size w (w.alloc (.cells (xcells x.list) 45)) := (Below.refl _ _).alloc (Nat.le_refl _) _
  obtain ⟨c0, c1, c2, c3, c4, c5, c6, c7, c8, c9, c10, c11⟩ := cells12 (a0 := .int .i64 ((x.kind : Nat) : Int)) k0
  have hcd : ∀ k, k < 6 → (w.alloc (.cells (xcells x.list) 45)).cell? ⟨w.heap.size, 4 + k, none⟩ = some (.int .i64 ((x.list.getD (4 + k) 0 : Nat) : Int)) := by
    intro k hk
    rw [cell_at k0, xcells_get _ _ (by rw [Ino.list_len]; omega)]
  have hd := dir_lt hx
  obtain ⟨h0, h1, h2, h3, h4, h5, h6, h7, h8, h9, h10, h11⟩ := fitI_iff.1 hx
  have HD := Lib.hid hd
  have HC := Lib.hid hcd
  have H := Lib.hid (And.intro h0 (And.intro h1 (And.intro h2 (And.intro h3 (And.intro h10 h11)))))
  clear hd hcd k0 hx h0 h1 h2 h3 h4 h5 h6 h7 h8 h9 h10 h11
  rw [show (#[.int .i64 ((x.kind : Nat) : Int), .int .i64 ((x.links : Nat) : Int), .int .i64 ((x.owner : Nat) : Int), .int .i64 ((x.size : Nat) : Int), .int .i64 ((x.d0 : Nat) : Int), .int .i64 ((x.d1 : Nat) : Int), .int .i64 ((x.d2 : Nat) : Int), .int .i64 ((x.d3 : Nat) : Int), .int .i64 ((x.d4 : Nat) : Int), .int .i64 ((x.d5 : Nat) : Int), .int .i64 ((x.ind : Nat) : Int), .int .i64 ((x.ext : Nat) : Int)] : Array Value) = xcells x.list from rfl]
  go_enter Try.func114, Try.ntmps114
  go_wp2_with (go_at_call 131; refine (within_ok _ _ _ (by have := H.out; omega)).mono ?_; rintro e w' ⟨rfl, rfl⟩)
  go_loop [3, 4] (fun s i => ∃ k : Nat, k ≤ 6 ∧ i = .int .i64 k ∧ s = .bool true) (fun _ i => 6 - (intOf i).toNat)
  case atStart => exact ⟨0, by omega, rfl, rfl⟩
  case round =>
    obtain ⟨k, hk, rfl, rfl⟩ := hrel
    by_cases hlt : k < 6
    · have hcd := HC.out k hlt
      have hfd := HD.out k hlt
      have hki : (k : Int) < 6 := by omega
      generalize x.list.getD (4 + k) 0 = b at *
      go_wp2_with (go_at_call 131; refine (within_ok _ _ _ (by omega)).mono ?_; rintro e w' ⟨rfl, rfl⟩)
      exact ⟨⟨k + 1, by omega, by go_num, rfl⟩, by simp only [intOf]; omega⟩
    · obtain rfl : k = 6 := by omega
      go_wp2
      go_ret
      exact ⟨rfl, hB1⟩
end Go.Proofs.Ytacdohlhalnioaa
end

/- Joined: XHG. -/
import Derived.Test.YtacdohlhalnioaaJD
import Derived.Test.YtacdohlhalnioaaJG
import Derived.Deep.Cut
/- Contract: a block goes from an inode (the document's). -/
section
set_option linter.unusedVariables false
set_option linter.unusedSimpArgs false
set_option maxRecDepth 20000
namespace Go.Proofs.Ytacdohlhalnioaa
open Go.RowKit
attribute [local go_sem] Oper.semAt_some

theorem xcells_setD (k b : Nat) (x : Ino) (hk : k < 6) : (#[.int .i64 ((x.kind : Nat) : Int), .int .i64 ((x.links : Nat) : Int), .int .i64 ((x.owner : Nat) : Int), .int .i64 ((x.size : Nat) : Int), .int .i64 ((x.d0 : Nat) : Int), .int .i64 ((x.d1 : Nat) : Int), .int .i64 ((x.d2 : Nat) : Int), .int .i64 ((x.d3 : Nat) : Int), .int .i64 ((x.d4 : Nat) : Int), .int .i64 ((x.d5 : Nat) : Int), .int .i64 ((x.ind : Nat) : Int), .int .i64 ((x.ext : Nat) : Int)] : Array Value).setIfInBounds (4 + k) (.int .i64 b) = #[.int .i64 (((x.setD k b).kind : Nat) : Int), .int .i64 (((x.setD k b).links : Nat) : Int), .int .i64 (((x.setD k b).owner : Nat) : Int), .int .i64 (((x.setD k b).size : Nat) : Int), .int .i64 (((x.setD k b).d0 : Nat) : Int), .int .i64 (((x.setD k b).d1 : Nat) : Int), .int .i64 (((x.setD k b).d2 : Nat) : Int), .int .i64 (((x.setD k b).d3 : Nat) : Int), .int .i64 (((x.setD k b).d4 : Nat) : Int), .int .i64 (((x.setD k b).d5 : Nat) : Int), .int .i64 (((x.setD k b).ind : Nat) : Int), .int .i64 (((x.setD k b).ext : Nat) : Int)] := by
  rcases (by omega : k = 0 ∨ k = 1 ∨ k = 2 ∨ k = 3 ∨ k = 4 ∨ k = 5) with rfl | rfl | rfl | rfl | rfl | rfl <;> rfl
/-- A block is given back: the answer, in whatever memory behind what was. -/
theorem rgive_rs (A : Option Addr) (c : Nat) (v : Vol) (b : Nat) (w : World) (hr : RS w A v) (hv : okV v = true) (h1 : dataV v ≤ b) (h2 : b < v.length) (h3 : bit (bk v 2) b = true) :
    Calls Try.prog 85 #[.slice A v.length c, .int .i64 b] w fun e w' => ∃ A' c', e = .returned (.tuple #[.slice A' v.length c', .int .i64 0]) ∧ RS w' A' (giveV v b) ∧ (∀ B o, A' = some ⟨B, o, none⟩ → w.heap.size ≤ B) ∧ Below w.heap.size w w' := by
  refine (rgive_ok A c v b w hr hv h1 h2 h3).mono ?_
  rintro e w' ⟨g, c', rfl, hg, hgs, hb⟩
  have := (okV_iff.1 hv).lo
  have := (okV_iff.1 hv).hi
  rw [giveV, if_pos h3]
  exact ⟨some ⟨g, 0, none⟩, c', rfl, hg.rs (by rw [List.length_set]; omega), fun B o e => by cases e; exact hgs, hb⟩
set_option maxHeartbeats 16000000 in
theorem rdrop_near (A : Option Addr) (c : Nat) (v : Vol) (x : Ino) (k : Nat) (w : World) (hr : RS w A v) (hv : okV v = true) (hk : k < 70) (hk6 : k < 6) :
    Calls Try.prog 84 #[.slice A v.length c, .agg #[.int .i64 ((x.kind : Nat) : Int), .int .i64 ((x.links : Nat) : Int), .int .i64 ((x.owner : Nat) : Int), .int .i64 ((x.size : Nat) : Int), .int .i64 ((x.d0 : Nat) : Int), .int .i64 ((x.d1 : Nat) : Int), .int .i64 ((x.d2 : Nat) : Int), .int .i64 ((x.d3 : Nat) : Int), .int .i64 ((x.d4 : Nat) : Int), .int .i64 ((x.d5 : Nat) : Int), .int .i64 ((x.ind : Nat) : Int), .int .i64 ((x.ext : Nat) : Int)], .int .i64 k] w fun e w' => ∃ A' c', e = .returned (.agg #[.slice A' v.length c', .int .i64 (((x.setD k 0).kind : Nat) : Int), .int .i64 (((x.setD k 0).links : Nat) : Int), .int .i64 (((x.setD k 0).owner : Nat) : Int), .int .i64 (((x.setD k 0).size : Nat) : Int), .int .i64 (((x.setD k 0).d0 : Nat) : Int), .int .i64 (((x.setD k 0).d1 : Nat) : Int), .int .i64 (((x.setD k 0).d2 : Nat) : Int), .int .i64 (((x.setD k 0).d3 : Nat) : Int), .int .i64 (((x.setD k 0).d4 : Nat) : Int), .int .i64 (((x.setD k 0).d5 : Nat) : Int), .int .i64 (((x.setD k 0).ind : Nat) : Int), .int .i64 (((x.setD k 0).ext : Nat) : Int), .int .i64 0, .int .i64 0]) ∧ RS w' A' (dropG (dataV v) v x k) ∧ (∀ B o, A' = some ⟨B, o, none⟩ → A = A' ∨ w.heap.size ≤ B) ∧ Below w.heap.size w w' := by
  obtain ⟨hB0, hq0, hq1⟩ := place_start x w _ rfl
  have HB0 := Lib.hid hB0
  have HQ0 := Lib.hid hq0
  have HQ1 := Lib.hid hq1
  obtain ⟨x0, x1, x2, x3, x4, x5, x6, x7, x8, x9, x10, x11⟩ := cells12 hq0
  have HR := Lib.hid hr
  have H := okV_iff.1 hv
  have hd0 : 0 < dataV v := by rw [dataV]; omega
  have hhi := H.hi
  have hdat := Lib.hid (fun w hr => rdata_ok A c v w hr hv)
  have hat := Lib.hid (fun w hr => rat_ok A c (dataV v) v.length v x k w hr rfl hk hd0 H.size)
  have HB00 := HB0.out.size
  have hlo := H.lo
  have hkd := kept_dropG hv x k
  have hdl := hkd.len
  have hdz : ∀ j, j < v.length → (bk (dropG (dataV v) v x k) j).length = 128 := fun j hj => (okV_iff.1 hkd.ok).size j (by rw [hdl]; exact hj)
  obtain ⟨V, hV⟩ : ∃ V, dropG (dataV v) v x k = V := ⟨_, rfl⟩
  rw [hV] at hdl hdz ⊢
  clear hkd
  have hki : (k : Int) < 6 := by omega
  have hk0 : (0 : Int) ≤ (k : Int) := by omega
  have HRA : Hid (∀ B o, A = some ⟨B, o, none⟩ → B ≠ w.heap.size ∧ B ≠ w.heap.size + 1) := Lib.hid (fun B o e => by
    obtain ⟨b', o', e', hb', _⟩ := HR.out.open_ (by omega)
    rw [e] at e'
    cases e'
    omega)
  by_cases h0 : atN (dataV v) v.length v x k = 0
  · have HVE := Lib.hid (show V = v by rw [← hV, dropG, if_pos h0])
    rw [h0] at hat
    have HF3 : Hid (∀ B o, A = some ⟨B, o, none⟩ → A = A ∨ w.heap.size ≤ B) := Lib.hid (fun _ _ _ => .inl rfl)
    have HA3 := HRA
    clear h0 hV hv H hB0 hq0 hq1 hr
    generalize dataV v = d at *
    go_enter Try.func84, Try.ntmps84
    go_upto_region 8 with (first
      | (go_at_call 56; refine (hdat.out _ (HR.out.below HB0.out)).mono ?_; rintro e w1 ⟨rfl, hb1⟩; have HB1 := Lib.hid (below_keep HB0.out (Nat.le_refl _) hb1); have hq0 := blk_keep HQ0.out hb1; obtain ⟨x0, x1, x2, x3, x4, x5, x6, x7, x8, x9, x10, x11⟩ := cells12 hq0; have HP0 := Lib.hid hq0; have HP1 := Lib.hid (blk_keep HQ1.out hb1); clear hb1 hq0)
      | (go_at_call 59; refine (hat.out _ (HR.out.below HB1.out)).mono ?_; rintro e w2 ⟨rfl, hb2⟩; have HB2 := Lib.hid (below_keep HB1.out (Nat.le_refl _) hb2); have hq0 := blk_keep HP0.out hb2; have hq1 := blk_keep HP1.out hb2; obtain ⟨x0, x1, x2, x3, x4, x5, x6, x7, x8, x9, x10, x11⟩ := cells12 hq0; obtain ⟨z0, z1, z2, z3, z4, z5, z6, z7, z8, z9, z10, z11, z12, z13, z14⟩ := cells15 hq1; obtain ⟨f0, f1, f2, f3, f4, f5, f6, f7, f8, f9, f10, f11, f12, f13, f14⟩ := frees15 hq1; have HU0 := Lib.hid hq0; have HU1 := Lib.hid hq1; clear hb2 hq0 hq1))
    have HR3 : Hid (RS w2 A V) := Lib.hid (by rw [HVE.out]; exact HR.out.below HB2.out)
    have HB3 := HB2
    have HT0 := HU0
    have HT1 := HU1
    have hq0 := HT0.out
    have hfk := free_of hq0 (4 + k)
    have hck : w2.cell? ⟨w.heap.size, 4 + k, none⟩ = some (.int .i64 ((x.list.getD (4 + k) 0 : Nat) : Int)) := by
      rw [cell_at hq0]
      rcases (by omega : k = 0 ∨ k = 1 ∨ k = 2 ∨ k = 3 ∨ k = 4 ∨ k = 5) with rfl | rfl | rfl | rfl | rfl | rfl <;> rfl
    have hs9 := blk_set hq0 (4 + k) (.int .i64 ((0 : Nat) : Int))
    rw [xcells_setD k 0 x hk6] at hs9
    simp only [Int.natCast_zero] at hs9
    clear x0 x1 x2 x3 x4 x5 x6 x7 x8 x9 x10 x11 z0 z1 z2 z3 z4 z5 z6 z7 z8 z9 z10 z11 z12 z13 z14 f0 f1 f2 f3 f4 f5 f6 f7 f8 f9 f10 f11 f12 f13 f14
    obtain ⟨y0, y1, y2, y3, y4, y5, y6, y7, y8, y9, y10, y11⟩ := cells12 hs9
    have hu2 := blk_set_other HT1.out (show w.heap.size + 1 ≠ w.heap.size by omega) (4 + k) (.int .i64 0)
    obtain ⟨fr0, fr1, fr2, fr3, fr4, fr5, fr6, fr7, fr8, fr9, fr10, fr11, fr12, fr13, fr14⟩ := frees15 hu2
    obtain ⟨u0, u1, u2, u3, u4, u5, u6, u7, u8, u9, u10, u11, u12, u13, u14⟩ := cells15 hu2
    have HU9 := Lib.hid hu2
    generalize x.list.getD (4 + k) 0 = x4 at *
    clear hq0 hs9 hu2
    go_wp2
    have hbf := blk_set15 (a0 := .slice A v.length c) (a1 := .int .i64 (((x.setD k 0).kind : Nat) : Int)) (a2 := .int .i64 (((x.setD k 0).links : Nat) : Int)) (a3 := .int .i64 (((x.setD k 0).owner : Nat) : Int)) (a4 := .int .i64 (((x.setD k 0).size : Nat) : Int)) (a5 := .int .i64 (((x.setD k 0).d0 : Nat) : Int)) (a6 := .int .i64 (((x.setD k 0).d1 : Nat) : Int)) (a7 := .int .i64 (((x.setD k 0).d2 : Nat) : Int)) (a8 := .int .i64 (((x.setD k 0).d3 : Nat) : Int)) (a9 := .int .i64 (((x.setD k 0).d4 : Nat) : Int)) (a10 := .int .i64 (((x.setD k 0).d5 : Nat) : Int)) (a11 := .int .i64 (((x.setD k 0).ind : Nat) : Int)) (a12 := .int .i64 (((x.setD k 0).ext : Nat) : Int)) (a13 := .int .i64 0) (a14 := .int .i64 0) HU9.out
    obtain ⟨r0, r1, r2, r3, r4, r5, r6, r7, r8, r9, r10, r11, r12, r13, r14⟩ := cells15 hbf
    refine bodyPost_ret (v := .agg #[.slice A v.length c, .int .i64 ((((x.setD k 0)).kind : Nat) : Int), .int .i64 ((((x.setD k 0)).links : Nat) : Int), .int .i64 ((((x.setD k 0)).owner : Nat) : Int), .int .i64 ((((x.setD k 0)).size : Nat) : Int), .int .i64 ((((x.setD k 0)).d0 : Nat) : Int), .int .i64 ((((x.setD k 0)).d1 : Nat) : Int), .int .i64 ((((x.setD k 0)).d2 : Nat) : Int), .int .i64 ((((x.setD k 0)).d3 : Nat) : Int), .int .i64 ((((x.setD k 0)).d4 : Nat) : Int), .int .i64 ((((x.setD k 0)).d5 : Nat) : Int), .int .i64 ((((x.setD k 0)).ind : Nat) : Int), .int .i64 ((((x.setD k 0)).ext : Nat) : Int), .int .i64 0, .int .i64 0]) (by simp [results, Try.results84, go_sem, r0, r1, r2, r3, r4, r5, r6, r7, r8, r9, r10, r11, r12, r13, r14]) rfl ?_
    refine ⟨A, c, rfl, ?_, fun _ _ _ => .inl rfl, below_set15 (below_set HB3.out (Nat.le_refl _)) (by omega)⟩
    exact rs_other (rs_other HR3.out (fun D o hne hD => blk_set_other hD hne _ _) (fun B o e => (HA3.out B o e).1)) (fun D o hne hD => heap_set15 hD hne) (fun B o e => (HA3.out B o e).2)
  · obtain ⟨b1, b2⟩ := atN_lt' h0
    obtain ⟨b, hb⟩ : ∃ b, atN (dataV v) v.length v x k = b := ⟨_, rfl⟩
    have hV' : V = giveV v b := by rw [← hV, dropG, if_neg h0, hb]
    rw [hb] at hat b1 b2
    have hbi : (0 : Int) < (b : Int) := by omega
    by_cases hbt : bit (bk v 2) b = true
    · have hgv := Lib.hid (fun w hr => rgive_rs A c v b w hr hv b1 b2 hbt)
      rw [← hV'] at hgv
      clear h0 hV hv H hB0 hq0 hq1 hr hb hV'
      generalize dataV v = d at *
      go_enter Try.func84, Try.ntmps84
      go_upto_region 8 with (first
        | (go_at_call 56; refine (hdat.out _ (HR.out.below HB0.out)).mono ?_; rintro e w1 ⟨rfl, hb1⟩; have HB1 := Lib.hid (below_keep HB0.out (Nat.le_refl _) hb1); have hq0 := blk_keep HQ0.out hb1; obtain ⟨x0, x1, x2, x3, x4, x5, x6, x7, x8, x9, x10, x11⟩ := cells12 hq0; have HP0 := Lib.hid hq0; have HP1 := Lib.hid (blk_keep HQ1.out hb1); clear hb1 hq0)
        | (go_at_call 59; refine (hat.out _ (HR.out.below HB1.out)).mono ?_; rintro e w2 ⟨rfl, hb2⟩; have HB2 := Lib.hid (below_keep HB1.out (Nat.le_refl _) hb2); have hq0 := blk_keep HP0.out hb2; have hq1 := blk_keep HP1.out hb2; obtain ⟨x0, x1, x2, x3, x4, x5, x6, x7, x8, x9, x10, x11⟩ := cells12 hq0; obtain ⟨z0, z1, z2, z3, z4, z5, z6, z7, z8, z9, z10, z11, z12, z13, z14⟩ := cells15 hq1; obtain ⟨f0, f1, f2, f3, f4, f5, f6, f7, f8, f9, f10, f11, f12, f13, f14⟩ := frees15 hq1; have HU0 := Lib.hid hq0; have HU1 := Lib.hid hq1; clear hb2 hq0 hq1)
        | (go_at_call 85; refine (hgv.out _ (HR.out.below HB2.out)).mono ?_; rintro e w3 ⟨A3, c3, rfl, hr3, hf3, hb3⟩; have HB3 := Lib.hid (below_keep HB2.out (Nat.le_refl _) hb3); have HR3 := Lib.hid hr3; have HF30 := Lib.hid hf3; have s2 := HB2.out.size; clear hr3 hf3; have sU := blk_lt HU1.out; clear x0 x1 x2 x3 x4 x5 x6 x7 x8 x9 x10 x11 z0 z1 z2 z3 z4 z5 z6 z7 z8 z9 z10 z11 z12 z13 z14 f0 f1 f2 f3 f4 f5 f6 f7 f8 f9 f10 f11 f12 f13 f14; have hq0 := blk_keep HU0.out hb3; have hq1 := blk_keep HU1.out hb3; obtain ⟨x0, x1, x2, x3, x4, x5, x6, x7, x8, x9, x10, x11⟩ := cells12 hq0; obtain ⟨z0, z1, z2, z3, z4, z5, z6, z7, z8, z9, z10, z11, z12, z13, z14⟩ := cells15 hq1; obtain ⟨f0, f1, f2, f3, f4, f5, f6, f7, f8, f9, f10, f11, f12, f13, f14⟩ := frees15 hq1; have HT0 := Lib.hid hq0; have HT1 := Lib.hid hq1; clear hb3 hq0 hq1))
      have HF3 : Hid (∀ B o, A3 = some ⟨B, o, none⟩ → A = A3 ∨ w.heap.size ≤ B) := Lib.hid (fun B o e => .inr (by have := HF30.out B o e; omega))
      have HA3 : Hid (∀ B o, A3 = some ⟨B, o, none⟩ → B ≠ w.heap.size ∧ B ≠ w.heap.size + 1) := Lib.hid (fun B o e => by have := HF30.out B o e; omega)
      have hq0 := HT0.out
      have hfk := free_of hq0 (4 + k)
      have hck : w3.cell? ⟨w.heap.size, 4 + k, none⟩ = some (.int .i64 ((x.list.getD (4 + k) 0 : Nat) : Int)) := by
        rw [cell_at hq0]
        rcases (by omega : k = 0 ∨ k = 1 ∨ k = 2 ∨ k = 3 ∨ k = 4 ∨ k = 5) with rfl | rfl | rfl | rfl | rfl | rfl <;> rfl
      have hs9 := blk_set hq0 (4 + k) (.int .i64 ((0 : Nat) : Int))
      rw [xcells_setD k 0 x hk6] at hs9
      simp only [Int.natCast_zero] at hs9
      clear x0 x1 x2 x3 x4 x5 x6 x7 x8 x9 x10 x11 z0 z1 z2 z3 z4 z5 z6 z7 z8 z9 z10 z11 z12 z13 z14 f0 f1 f2 f3 f4 f5 f6 f7 f8 f9 f10 f11 f12 f13 f14
      obtain ⟨y0, y1, y2, y3, y4, y5, y6, y7, y8, y9, y10, y11⟩ := cells12 hs9
      have hu2 := blk_set_other HT1.out (show w.heap.size + 1 ≠ w.heap.size by omega) (4 + k) (.int .i64 0)
      obtain ⟨fr0, fr1, fr2, fr3, fr4, fr5, fr6, fr7, fr8, fr9, fr10, fr11, fr12, fr13, fr14⟩ := frees15 hu2
      obtain ⟨u0, u1, u2, u3, u4, u5, u6, u7, u8, u9, u10, u11, u12, u13, u14⟩ := cells15 hu2
      have HU9 := Lib.hid hu2
      generalize x.list.getD (4 + k) 0 = x4 at *
      clear hq0 hs9 hu2
      go_wp2
      have hbf := blk_set15 (a0 := .slice A3 v.length c3) (a1 := .int .i64 (((x.setD k 0).kind : Nat) : Int)) (a2 := .int .i64 (((x.setD k 0).links : Nat) : Int)) (a3 := .int .i64 (((x.setD k 0).owner : Nat) : Int)) (a4 := .int .i64 (((x.setD k 0).size : Nat) : Int)) (a5 := .int .i64 (((x.setD k 0).d0 : Nat) : Int)) (a6 := .int .i64 (((x.setD k 0).d1 : Nat) : Int)) (a7 := .int .i64 (((x.setD k 0).d2 : Nat) : Int)) (a8 := .int .i64 (((x.setD k 0).d3 : Nat) : Int)) (a9 := .int .i64 (((x.setD k 0).d4 : Nat) : Int)) (a10 := .int .i64 (((x.setD k 0).d5 : Nat) : Int)) (a11 := .int .i64 (((x.setD k 0).ind : Nat) : Int)) (a12 := .int .i64 (((x.setD k 0).ext : Nat) : Int)) (a13 := .int .i64 0) (a14 := .int .i64 0) HU9.out
      obtain ⟨r0, r1, r2, r3, r4, r5, r6, r7, r8, r9, r10, r11, r12, r13, r14⟩ := cells15 hbf
      refine bodyPost_ret (v := .agg #[.slice A3 v.length c3, .int .i64 ((((x.setD k 0)).kind : Nat) : Int), .int .i64 ((((x.setD k 0)).links : Nat) : Int), .int .i64 ((((x.setD k 0)).owner : Nat) : Int), .int .i64 ((((x.setD k 0)).size : Nat) : Int), .int .i64 ((((x.setD k 0)).d0 : Nat) : Int), .int .i64 ((((x.setD k 0)).d1 : Nat) : Int), .int .i64 ((((x.setD k 0)).d2 : Nat) : Int), .int .i64 ((((x.setD k 0)).d3 : Nat) : Int), .int .i64 ((((x.setD k 0)).d4 : Nat) : Int), .int .i64 ((((x.setD k 0)).d5 : Nat) : Int), .int .i64 ((((x.setD k 0)).ind : Nat) : Int), .int .i64 ((((x.setD k 0)).ext : Nat) : Int), .int .i64 0, .int .i64 0]) (by simp [results, Try.results84, go_sem, r0, r1, r2, r3, r4, r5, r6, r7, r8, r9, r10, r11, r12, r13, r14]) rfl ?_
      refine ⟨A3, c3, rfl, ?_, HF3.out, below_set15 (below_set HB3.out (Nat.le_refl _)) (by omega)⟩
      exact rs_other (rs_other HR3.out (fun D o hne hD => blk_set_other hD hne _ _) (fun B o e => (HA3.out B o e).1)) (fun D o hne hD => heap_set15 hD hne) (fun B o e => (HA3.out B o e).2)
    · have hbt' : bit (bk v 2) b = false := by simpa using hbt
      have HVE := Lib.hid (show V = v by rw [hV', giveV, if_neg hbt])
      have hgv := Lib.hid (fun w hr => rgive_none A c v b w hr hv b1 b2 hbt')
      have HF3 : Hid (∀ B o, A = some ⟨B, o, none⟩ → A = A ∨ w.heap.size ≤ B) := Lib.hid (fun _ _ _ => .inl rfl)
      have HA3 := HRA
      clear h0 hV hv H hB0 hq0 hq1 hr hb hV' hbt hbt'
      generalize dataV v = d at *
      go_enter Try.func84, Try.ntmps84
      go_upto_region 8 with (first
        | (go_at_call 56; refine (hdat.out _ (HR.out.below HB0.out)).mono ?_; rintro e w1 ⟨rfl, hb1⟩; have HB1 := Lib.hid (below_keep HB0.out (Nat.le_refl _) hb1); have hq0 := blk_keep HQ0.out hb1; obtain ⟨x0, x1, x2, x3, x4, x5, x6, x7, x8, x9, x10, x11⟩ := cells12 hq0; have HP0 := Lib.hid hq0; have HP1 := Lib.hid (blk_keep HQ1.out hb1); clear hb1 hq0)
        | (go_at_call 59; refine (hat.out _ (HR.out.below HB1.out)).mono ?_; rintro e w2 ⟨rfl, hb2⟩; have HB2 := Lib.hid (below_keep HB1.out (Nat.le_refl _) hb2); have hq0 := blk_keep HP0.out hb2; have hq1 := blk_keep HP1.out hb2; obtain ⟨x0, x1, x2, x3, x4, x5, x6, x7, x8, x9, x10, x11⟩ := cells12 hq0; obtain ⟨z0, z1, z2, z3, z4, z5, z6, z7, z8, z9, z10, z11, z12, z13, z14⟩ := cells15 hq1; obtain ⟨f0, f1, f2, f3, f4, f5, f6, f7, f8, f9, f10, f11, f12, f13, f14⟩ := frees15 hq1; have HU0 := Lib.hid hq0; have HU1 := Lib.hid hq1; clear hb2 hq0 hq1)
        | (go_at_call 85; refine (hgv.out _ (HR.out.below HB2.out)).mono ?_; rintro e w3 ⟨rfl, hb3⟩; have HB3 := Lib.hid (below_keep HB2.out (Nat.le_refl _) hb3); clear x0 x1 x2 x3 x4 x5 x6 x7 x8 x9 x10 x11 z0 z1 z2 z3 z4 z5 z6 z7 z8 z9 z10 z11 z12 z13 z14 f0 f1 f2 f3 f4 f5 f6 f7 f8 f9 f10 f11 f12 f13 f14; have hq0 := blk_keep HU0.out hb3; have hq1 := blk_keep HU1.out hb3; obtain ⟨x0, x1, x2, x3, x4, x5, x6, x7, x8, x9, x10, x11⟩ := cells12 hq0; obtain ⟨z0, z1, z2, z3, z4, z5, z6, z7, z8, z9, z10, z11, z12, z13, z14⟩ := cells15 hq1; obtain ⟨f0, f1, f2, f3, f4, f5, f6, f7, f8, f9, f10, f11, f12, f13, f14⟩ := frees15 hq1; have HT0 := Lib.hid hq0; have HT1 := Lib.hid hq1; clear hb3 hq0 hq1))
      have HR3 : Hid (RS w3 A V) := Lib.hid (by rw [HVE.out]; exact HR.out.below HB3.out)
      have hq0 := HT0.out
      have hfk := free_of hq0 (4 + k)
      have hck : w3.cell? ⟨w.heap.size, 4 + k, none⟩ = some (.int .i64 ((x.list.getD (4 + k) 0 : Nat) : Int)) := by
        rw [cell_at hq0]
        rcases (by omega : k = 0 ∨ k = 1 ∨ k = 2 ∨ k = 3 ∨ k = 4 ∨ k = 5) with rfl | rfl | rfl | rfl | rfl | rfl <;> rfl
      have hs9 := blk_set hq0 (4 + k) (.int .i64 ((0 : Nat) : Int))
      rw [xcells_setD k 0 x hk6] at hs9
      simp only [Int.natCast_zero] at hs9
      clear x0 x1 x2 x3 x4 x5 x6 x7 x8 x9 x10 x11 z0 z1 z2 z3 z4 z5 z6 z7 z8 z9 z10 z11 z12 z13 z14 f0 f1 f2 f3 f4 f5 f6 f7 f8 f9 f10 f11 f12 f13 f14
      obtain ⟨y0, y1, y2, y3, y4, y5, y6, y7, y8, y9, y10, y11⟩ := cells12 hs9
      have hu2 := blk_set_other HT1.out (show w.heap.size + 1 ≠ w.heap.size by omega) (4 + k) (.int .i64 0)
      obtain ⟨fr0, fr1, fr2, fr3, fr4, fr5, fr6, fr7, fr8, fr9, fr10, fr11, fr12, fr13, fr14⟩ := frees15 hu2
      obtain ⟨u0, u1, u2, u3, u4, u5, u6, u7, u8, u9, u10, u11, u12, u13, u14⟩ := cells15 hu2
      have HU9 := Lib.hid hu2
      generalize x.list.getD (4 + k) 0 = x4 at *
      clear hq0 hs9 hu2
      go_wp2
      have hbf := blk_set15 (a0 := .slice A v.length c) (a1 := .int .i64 (((x.setD k 0).kind : Nat) : Int)) (a2 := .int .i64 (((x.setD k 0).links : Nat) : Int)) (a3 := .int .i64 (((x.setD k 0).owner : Nat) : Int)) (a4 := .int .i64 (((x.setD k 0).size : Nat) : Int)) (a5 := .int .i64 (((x.setD k 0).d0 : Nat) : Int)) (a6 := .int .i64 (((x.setD k 0).d1 : Nat) : Int)) (a7 := .int .i64 (((x.setD k 0).d2 : Nat) : Int)) (a8 := .int .i64 (((x.setD k 0).d3 : Nat) : Int)) (a9 := .int .i64 (((x.setD k 0).d4 : Nat) : Int)) (a10 := .int .i64 (((x.setD k 0).d5 : Nat) : Int)) (a11 := .int .i64 (((x.setD k 0).ind : Nat) : Int)) (a12 := .int .i64 (((x.setD k 0).ext : Nat) : Int)) (a13 := .int .i64 0) (a14 := .int .i64 0) HU9.out
      obtain ⟨r0, r1, r2, r3, r4, r5, r6, r7, r8, r9, r10, r11, r12, r13, r14⟩ := cells15 hbf
      refine bodyPost_ret (v := .agg #[.slice A v.length c, .int .i64 ((((x.setD k 0)).kind : Nat) : Int), .int .i64 ((((x.setD k 0)).links : Nat) : Int), .int .i64 ((((x.setD k 0)).owner : Nat) : Int), .int .i64 ((((x.setD k 0)).size : Nat) : Int), .int .i64 ((((x.setD k 0)).d0 : Nat) : Int), .int .i64 ((((x.setD k 0)).d1 : Nat) : Int), .int .i64 ((((x.setD k 0)).d2 : Nat) : Int), .int .i64 ((((x.setD k 0)).d3 : Nat) : Int), .int .i64 ((((x.setD k 0)).d4 : Nat) : Int), .int .i64 ((((x.setD k 0)).d5 : Nat) : Int), .int .i64 ((((x.setD k 0)).ind : Nat) : Int), .int .i64 ((((x.setD k 0)).ext : Nat) : Int), .int .i64 0, .int .i64 0]) (by simp [results, Try.results84, go_sem, r0, r1, r2, r3, r4, r5, r6, r7, r8, r9, r10, r11, r12, r13, r14]) rfl ?_
      refine ⟨A, c, rfl, ?_, fun _ _ _ => .inl rfl, below_set15 (below_set HB3.out (Nat.le_refl _)) (by omega)⟩
      exact rs_other (rs_other HR3.out (fun D o hne hD => blk_set_other hD hne _ _) (fun B o e => (HA3.out B o e).1)) (fun D o hne hD => heap_set15 hD hne) (fun B o e => (HA3.out B o e).2)
set_option maxHeartbeats 16000000 in
theorem rdrop_none (A : Option Addr) (c : Nat) (v : Vol) (x : Ino) (k : Nat) (w : World) (hr : RS w A v) (hv : okV v = true) (hk : k < 70) (hk6 : 6 ≤ k) (hg : goodN (dataV v) v.length x.ind = false) :
    Calls Try.prog 84 #[.slice A v.length c, .agg #[.int .i64 ((x.kind : Nat) : Int), .int .i64 ((x.links : Nat) : Int), .int .i64 ((x.owner : Nat) : Int), .int .i64 ((x.size : Nat) : Int), .int .i64 ((x.d0 : Nat) : Int), .int .i64 ((x.d1 : Nat) : Int), .int .i64 ((x.d2 : Nat) : Int), .int .i64 ((x.d3 : Nat) : Int), .int .i64 ((x.d4 : Nat) : Int), .int .i64 ((x.d5 : Nat) : Int), .int .i64 ((x.ind : Nat) : Int), .int .i64 ((x.ext : Nat) : Int)], .int .i64 k] w fun e w' => ∃ A' c', e = .returned (.agg #[.slice A' v.length c', .int .i64 ((x.kind : Nat) : Int), .int .i64 ((x.links : Nat) : Int), .int .i64 ((x.owner : Nat) : Int), .int .i64 ((x.size : Nat) : Int), .int .i64 ((x.d0 : Nat) : Int), .int .i64 ((x.d1 : Nat) : Int), .int .i64 ((x.d2 : Nat) : Int), .int .i64 ((x.d3 : Nat) : Int), .int .i64 ((x.d4 : Nat) : Int), .int .i64 ((x.d5 : Nat) : Int), .int .i64 ((x.ind : Nat) : Int), .int .i64 ((x.ext : Nat) : Int), .int .i64 0, .int .i64 0]) ∧ RS w' A' (dropG (dataV v) v x k) ∧ (∀ B o, A' = some ⟨B, o, none⟩ → A = A' ∨ w.heap.size ≤ B) ∧ Below w.heap.size w w' := by
  obtain ⟨hB0, hq0, hq1⟩ := place_start x w _ rfl
  have HB0 := Lib.hid hB0
  have HQ0 := Lib.hid hq0
  have HQ1 := Lib.hid hq1
  obtain ⟨x0, x1, x2, x3, x4, x5, x6, x7, x8, x9, x10, x11⟩ := cells12 hq0
  have HR := Lib.hid hr
  have H := okV_iff.1 hv
  have hd0 : 0 < dataV v := by rw [dataV]; omega
  have hhi := H.hi
  have hdat := Lib.hid (fun w hr => rdata_ok A c v w hr hv)
  have hat := Lib.hid (fun w hr => rat_ok A c (dataV v) v.length v x k w hr rfl hk hd0 H.size)
  have HB00 := HB0.out.size
  have hlo := H.lo
  have hkd := kept_dropG hv x k
  have hdl := hkd.len
  have hdz : ∀ j, j < v.length → (bk (dropG (dataV v) v x k) j).length = 128 := fun j hj => (okV_iff.1 hkd.ok).size j (by rw [hdl]; exact hj)
  obtain ⟨V, hV⟩ : ∃ V, dropG (dataV v) v x k = V := ⟨_, rfl⟩
  rw [hV] at hdl hdz ⊢
  clear hkd
  have hki : ¬ (k : Int) < 6 := by omega
  have hgz := goodZ_no hg
  have HGZ := Lib.hid hgz
  clear hgz hg
  have HRA : Hid (∀ B o, A = some ⟨B, o, none⟩ → B ≠ w.heap.size ∧ B ≠ w.heap.size + 1) := Lib.hid (fun B o e => by
    obtain ⟨b', o', e', hb', _⟩ := HR.out.open_ (by omega)
    rw [e] at e'
    cases e'
    omega)
  by_cases h0 : atN (dataV v) v.length v x k = 0
  · have HVE := Lib.hid (show V = v by rw [← hV, dropG, if_pos h0])
    rw [h0] at hat
    have HF3 : Hid (∀ B o, A = some ⟨B, o, none⟩ → A = A ∨ w.heap.size ≤ B) := Lib.hid (fun _ _ _ => .inl rfl)
    have HA3 := HRA
    clear h0 hV hv H hB0 hq0 hq1 hr
    generalize dataV v = d at *
    go_enter Try.func84, Try.ntmps84
    go_upto_region 9 with (first
      | (go_at_call 56; refine (hdat.out _ (HR.out.below HB0.out)).mono ?_; rintro e w1 ⟨rfl, hb1⟩; have HB1 := Lib.hid (below_keep HB0.out (Nat.le_refl _) hb1); have hq0 := blk_keep HQ0.out hb1; obtain ⟨x0, x1, x2, x3, x4, x5, x6, x7, x8, x9, x10, x11⟩ := cells12 hq0; have HP0 := Lib.hid hq0; have HP1 := Lib.hid (blk_keep HQ1.out hb1); clear hb1 hq0)
      | (go_at_call 59; refine (hat.out _ (HR.out.below HB1.out)).mono ?_; rintro e w2 ⟨rfl, hb2⟩; have HB2 := Lib.hid (below_keep HB1.out (Nat.le_refl _) hb2); have hq0 := blk_keep HP0.out hb2; have hq1 := blk_keep HP1.out hb2; obtain ⟨x0, x1, x2, x3, x4, x5, x6, x7, x8, x9, x10, x11⟩ := cells12 hq0; obtain ⟨z0, z1, z2, z3, z4, z5, z6, z7, z8, z9, z10, z11, z12, z13, z14⟩ := cells15 hq1; obtain ⟨f0, f1, f2, f3, f4, f5, f6, f7, f8, f9, f10, f11, f12, f13, f14⟩ := frees15 hq1; have HU0 := Lib.hid hq0; have HU1 := Lib.hid hq1; clear hb2 hq0 hq1))
    have HR3 : Hid (RS w2 A V) := Lib.hid (by rw [HVE.out]; exact HR.out.below HB2.out)
    have HB3 := HB2
    have HT0 := HU0
    have HT1 := HU1
    clear z0 z1 z2 z3 z4 z5 z6 z7 z8 z9 z10 z11 z12 z13 z14 f0 f1 f2 f3 f4 f5 f6 f7 f8 f9 f10 f11 f12 f13 f14
    have hu2 := HT1.out
    obtain ⟨fr0, fr1, fr2, fr3, fr4, fr5, fr6, fr7, fr8, fr9, fr10, fr11, fr12, fr13, fr14⟩ := frees15 hu2
    obtain ⟨u0, u1, u2, u3, u4, u5, u6, u7, u8, u9, u10, u11, u12, u13, u14⟩ := cells15 hu2
    clear hu2
    go_wp2_with (first
        | (go_at_call 64; refine (rgood_ok A c v.length d x.ind _ (by omega)).mono ?_; rw [HGZ.out]; rintro e w8 ⟨rfl, rfl⟩))
    have hbf := blk_set15 (a0 := .slice A v.length c) (a1 := .int .i64 ((x.kind : Nat) : Int)) (a2 := .int .i64 ((x.links : Nat) : Int)) (a3 := .int .i64 ((x.owner : Nat) : Int)) (a4 := .int .i64 ((x.size : Nat) : Int)) (a5 := .int .i64 ((x.d0 : Nat) : Int)) (a6 := .int .i64 ((x.d1 : Nat) : Int)) (a7 := .int .i64 ((x.d2 : Nat) : Int)) (a8 := .int .i64 ((x.d3 : Nat) : Int)) (a9 := .int .i64 ((x.d4 : Nat) : Int)) (a10 := .int .i64 ((x.d5 : Nat) : Int)) (a11 := .int .i64 ((x.ind : Nat) : Int)) (a12 := .int .i64 ((x.ext : Nat) : Int)) (a13 := .int .i64 0) (a14 := .int .i64 0) HT1.out
    obtain ⟨r0, r1, r2, r3, r4, r5, r6, r7, r8, r9, r10, r11, r12, r13, r14⟩ := cells15 hbf
    refine bodyPost_ret (v := .agg #[.slice A v.length c, .int .i64 ((x.kind : Nat) : Int), .int .i64 ((x.links : Nat) : Int), .int .i64 ((x.owner : Nat) : Int), .int .i64 ((x.size : Nat) : Int), .int .i64 ((x.d0 : Nat) : Int), .int .i64 ((x.d1 : Nat) : Int), .int .i64 ((x.d2 : Nat) : Int), .int .i64 ((x.d3 : Nat) : Int), .int .i64 ((x.d4 : Nat) : Int), .int .i64 ((x.d5 : Nat) : Int), .int .i64 ((x.ind : Nat) : Int), .int .i64 ((x.ext : Nat) : Int), .int .i64 0, .int .i64 0]) (by simp [results, Try.results84, go_sem, r0, r1, r2, r3, r4, r5, r6, r7, r8, r9, r10, r11, r12, r13, r14]) rfl ?_
    refine ⟨A, c, rfl, ?_, fun _ _ _ => .inl rfl, below_set15 HB3.out (by omega)⟩
    exact rs_other HR3.out (fun D o hne hD => heap_set15 hD hne) (fun B o e => (HA3.out B o e).2)
  · obtain ⟨b1, b2⟩ := atN_lt' h0
    obtain ⟨b, hb⟩ : ∃ b, atN (dataV v) v.length v x k = b := ⟨_, rfl⟩
    have hV' : V = giveV v b := by rw [← hV, dropG, if_neg h0, hb]
    rw [hb] at hat b1 b2
    have hbi : (0 : Int) < (b : Int) := by omega
    by_cases hbt : bit (bk v 2) b = true
    · have hgv := Lib.hid (fun w hr => rgive_rs A c v b w hr hv b1 b2 hbt)
      rw [← hV'] at hgv
      clear h0 hV hv H hB0 hq0 hq1 hr hb hV'
      generalize dataV v = d at *
      go_enter Try.func84, Try.ntmps84
      go_upto_region 9 with (first
        | (go_at_call 56; refine (hdat.out _ (HR.out.below HB0.out)).mono ?_; rintro e w1 ⟨rfl, hb1⟩; have HB1 := Lib.hid (below_keep HB0.out (Nat.le_refl _) hb1); have hq0 := blk_keep HQ0.out hb1; obtain ⟨x0, x1, x2, x3, x4, x5, x6, x7, x8, x9, x10, x11⟩ := cells12 hq0; have HP0 := Lib.hid hq0; have HP1 := Lib.hid (blk_keep HQ1.out hb1); clear hb1 hq0)
        | (go_at_call 59; refine (hat.out _ (HR.out.below HB1.out)).mono ?_; rintro e w2 ⟨rfl, hb2⟩; have HB2 := Lib.hid (below_keep HB1.out (Nat.le_refl _) hb2); have hq0 := blk_keep HP0.out hb2; have hq1 := blk_keep HP1.out hb2; obtain ⟨x0, x1, x2, x3, x4, x5, x6, x7, x8, x9, x10, x11⟩ := cells12 hq0; obtain ⟨z0, z1, z2, z3, z4, z5, z6, z7, z8, z9, z10, z11, z12, z13, z14⟩ := cells15 hq1; obtain ⟨f0, f1, f2, f3, f4, f5, f6, f7, f8, f9, f10, f11, f12, f13, f14⟩ := frees15 hq1; have HU0 := Lib.hid hq0; have HU1 := Lib.hid hq1; clear hb2 hq0 hq1)
        | (go_at_call 85; refine (hgv.out _ (HR.out.below HB2.out)).mono ?_; rintro e w3 ⟨A3, c3, rfl, hr3, hf3, hb3⟩; have HB3 := Lib.hid (below_keep HB2.out (Nat.le_refl _) hb3); have HR3 := Lib.hid hr3; have HF30 := Lib.hid hf3; have s2 := HB2.out.size; clear hr3 hf3; have sU := blk_lt HU1.out; clear x0 x1 x2 x3 x4 x5 x6 x7 x8 x9 x10 x11 z0 z1 z2 z3 z4 z5 z6 z7 z8 z9 z10 z11 z12 z13 z14 f0 f1 f2 f3 f4 f5 f6 f7 f8 f9 f10 f11 f12 f13 f14; have hq0 := blk_keep HU0.out hb3; have hq1 := blk_keep HU1.out hb3; obtain ⟨x0, x1, x2, x3, x4, x5, x6, x7, x8, x9, x10, x11⟩ := cells12 hq0; obtain ⟨z0, z1, z2, z3, z4, z5, z6, z7, z8, z9, z10, z11, z12, z13, z14⟩ := cells15 hq1; obtain ⟨f0, f1, f2, f3, f4, f5, f6, f7, f8, f9, f10, f11, f12, f13, f14⟩ := frees15 hq1; have HT0 := Lib.hid hq0; have HT1 := Lib.hid hq1; clear hb3 hq0 hq1))
      have HF3 : Hid (∀ B o, A3 = some ⟨B, o, none⟩ → A = A3 ∨ w.heap.size ≤ B) := Lib.hid (fun B o e => .inr (by have := HF30.out B o e; omega))
      have HA3 : Hid (∀ B o, A3 = some ⟨B, o, none⟩ → B ≠ w.heap.size ∧ B ≠ w.heap.size + 1) := Lib.hid (fun B o e => by have := HF30.out B o e; omega)
      clear z0 z1 z2 z3 z4 z5 z6 z7 z8 z9 z10 z11 z12 z13 z14 f0 f1 f2 f3 f4 f5 f6 f7 f8 f9 f10 f11 f12 f13 f14
      have hu2 := HT1.out
      obtain ⟨fr0, fr1, fr2, fr3, fr4, fr5, fr6, fr7, fr8, fr9, fr10, fr11, fr12, fr13, fr14⟩ := frees15 hu2
      obtain ⟨u0, u1, u2, u3, u4, u5, u6, u7, u8, u9, u10, u11, u12, u13, u14⟩ := cells15 hu2
      clear hu2
      go_wp2_with (first
          | (go_at_call 64; refine (rgood_ok A3 c3 v.length d x.ind _ (by omega)).mono ?_; rw [HGZ.out]; rintro e w8 ⟨rfl, rfl⟩))
      have hbf := blk_set15 (a0 := .slice A3 v.length c3) (a1 := .int .i64 ((x.kind : Nat) : Int)) (a2 := .int .i64 ((x.links : Nat) : Int)) (a3 := .int .i64 ((x.owner : Nat) : Int)) (a4 := .int .i64 ((x.size : Nat) : Int)) (a5 := .int .i64 ((x.d0 : Nat) : Int)) (a6 := .int .i64 ((x.d1 : Nat) : Int)) (a7 := .int .i64 ((x.d2 : Nat) : Int)) (a8 := .int .i64 ((x.d3 : Nat) : Int)) (a9 := .int .i64 ((x.d4 : Nat) : Int)) (a10 := .int .i64 ((x.d5 : Nat) : Int)) (a11 := .int .i64 ((x.ind : Nat) : Int)) (a12 := .int .i64 ((x.ext : Nat) : Int)) (a13 := .int .i64 0) (a14 := .int .i64 0) HT1.out
      obtain ⟨r0, r1, r2, r3, r4, r5, r6, r7, r8, r9, r10, r11, r12, r13, r14⟩ := cells15 hbf
      refine bodyPost_ret (v := .agg #[.slice A3 v.length c3, .int .i64 ((x.kind : Nat) : Int), .int .i64 ((x.links : Nat) : Int), .int .i64 ((x.owner : Nat) : Int), .int .i64 ((x.size : Nat) : Int), .int .i64 ((x.d0 : Nat) : Int), .int .i64 ((x.d1 : Nat) : Int), .int .i64 ((x.d2 : Nat) : Int), .int .i64 ((x.d3 : Nat) : Int), .int .i64 ((x.d4 : Nat) : Int), .int .i64 ((x.d5 : Nat) : Int), .int .i64 ((x.ind : Nat) : Int), .int .i64 ((x.ext : Nat) : Int), .int .i64 0, .int .i64 0]) (by simp [results, Try.results84, go_sem, r0, r1, r2, r3, r4, r5, r6, r7, r8, r9, r10, r11, r12, r13, r14]) rfl ?_
      refine ⟨A3, c3, rfl, ?_, HF3.out, below_set15 HB3.out (by omega)⟩
      exact rs_other HR3.out (fun D o hne hD => heap_set15 hD hne) (fun B o e => (HA3.out B o e).2)
    · have hbt' : bit (bk v 2) b = false := by simpa using hbt
      have HVE := Lib.hid (show V = v by rw [hV', giveV, if_neg hbt])
      have hgv := Lib.hid (fun w hr => rgive_none A c v b w hr hv b1 b2 hbt')
      have HF3 : Hid (∀ B o, A = some ⟨B, o, none⟩ → A = A ∨ w.heap.size ≤ B) := Lib.hid (fun _ _ _ => .inl rfl)
      have HA3 := HRA
      clear h0 hV hv H hB0 hq0 hq1 hr hb hV' hbt hbt'
      generalize dataV v = d at *
      go_enter Try.func84, Try.ntmps84
      go_upto_region 9 with (first
        | (go_at_call 56; refine (hdat.out _ (HR.out.below HB0.out)).mono ?_; rintro e w1 ⟨rfl, hb1⟩; have HB1 := Lib.hid (below_keep HB0.out (Nat.le_refl _) hb1); have hq0 := blk_keep HQ0.out hb1; obtain ⟨x0, x1, x2, x3, x4, x5, x6, x7, x8, x9, x10, x11⟩ := cells12 hq0; have HP0 := Lib.hid hq0; have HP1 := Lib.hid (blk_keep HQ1.out hb1); clear hb1 hq0)
        | (go_at_call 59; refine (hat.out _ (HR.out.below HB1.out)).mono ?_; rintro e w2 ⟨rfl, hb2⟩; have HB2 := Lib.hid (below_keep HB1.out (Nat.le_refl _) hb2); have hq0 := blk_keep HP0.out hb2; have hq1 := blk_keep HP1.out hb2; obtain ⟨x0, x1, x2, x3, x4, x5, x6, x7, x8, x9, x10, x11⟩ := cells12 hq0; obtain ⟨z0, z1, z2, z3, z4, z5, z6, z7, z8, z9, z10, z11, z12, z13, z14⟩ := cells15 hq1; obtain ⟨f0, f1, f2, f3, f4, f5, f6, f7, f8, f9, f10, f11, f12, f13, f14⟩ := frees15 hq1; have HU0 := Lib.hid hq0; have HU1 := Lib.hid hq1; clear hb2 hq0 hq1)
        | (go_at_call 85; refine (hgv.out _ (HR.out.below HB2.out)).mono ?_; rintro e w3 ⟨rfl, hb3⟩; have HB3 := Lib.hid (below_keep HB2.out (Nat.le_refl _) hb3); clear x0 x1 x2 x3 x4 x5 x6 x7 x8 x9 x10 x11 z0 z1 z2 z3 z4 z5 z6 z7 z8 z9 z10 z11 z12 z13 z14 f0 f1 f2 f3 f4 f5 f6 f7 f8 f9 f10 f11 f12 f13 f14; have hq0 := blk_keep HU0.out hb3; have hq1 := blk_keep HU1.out hb3; obtain ⟨x0, x1, x2, x3, x4, x5, x6, x7, x8, x9, x10, x11⟩ := cells12 hq0; obtain ⟨z0, z1, z2, z3, z4, z5, z6, z7, z8, z9, z10, z11, z12, z13, z14⟩ := cells15 hq1; obtain ⟨f0, f1, f2, f3, f4, f5, f6, f7, f8, f9, f10, f11, f12, f13, f14⟩ := frees15 hq1; have HT0 := Lib.hid hq0; have HT1 := Lib.hid hq1; clear hb3 hq0 hq1))
      have HR3 : Hid (RS w3 A V) := Lib.hid (by rw [HVE.out]; exact HR.out.below HB3.out)
      clear z0 z1 z2 z3 z4 z5 z6 z7 z8 z9 z10 z11 z12 z13 z14 f0 f1 f2 f3 f4 f5 f6 f7 f8 f9 f10 f11 f12 f13 f14
      have hu2 := HT1.out
      obtain ⟨fr0, fr1, fr2, fr3, fr4, fr5, fr6, fr7, fr8, fr9, fr10, fr11, fr12, fr13, fr14⟩ := frees15 hu2
      obtain ⟨u0, u1, u2, u3, u4, u5, u6, u7, u8, u9, u10, u11, u12, u13, u14⟩ := cells15 hu2
      clear hu2
      go_wp2_with (first
          | (go_at_call 64; refine (rgood_ok A c v.length d x.ind _ (by omega)).mono ?_; rw [HGZ.out]; rintro e w8 ⟨rfl, rfl⟩))
      have hbf := blk_set15 (a0 := .slice A v.length c) (a1 := .int .i64 ((x.kind : Nat) : Int)) (a2 := .int .i64 ((x.links : Nat) : Int)) (a3 := .int .i64 ((x.owner : Nat) : Int)) (a4 := .int .i64 ((x.size : Nat) : Int)) (a5 := .int .i64 ((x.d0 : Nat) : Int)) (a6 := .int .i64 ((x.d1 : Nat) : Int)) (a7 := .int .i64 ((x.d2 : Nat) : Int)) (a8 := .int .i64 ((x.d3 : Nat) : Int)) (a9 := .int .i64 ((x.d4 : Nat) : Int)) (a10 := .int .i64 ((x.d5 : Nat) : Int)) (a11 := .int .i64 ((x.ind : Nat) : Int)) (a12 := .int .i64 ((x.ext : Nat) : Int)) (a13 := .int .i64 0) (a14 := .int .i64 0) HT1.out
      obtain ⟨r0, r1, r2, r3, r4, r5, r6, r7, r8, r9, r10, r11, r12, r13, r14⟩ := cells15 hbf
      refine bodyPost_ret (v := .agg #[.slice A v.length c, .int .i64 ((x.kind : Nat) : Int), .int .i64 ((x.links : Nat) : Int), .int .i64 ((x.owner : Nat) : Int), .int .i64 ((x.size : Nat) : Int), .int .i64 ((x.d0 : Nat) : Int), .int .i64 ((x.d1 : Nat) : Int), .int .i64 ((x.d2 : Nat) : Int), .int .i64 ((x.d3 : Nat) : Int), .int .i64 ((x.d4 : Nat) : Int), .int .i64 ((x.d5 : Nat) : Int), .int .i64 ((x.ind : Nat) : Int), .int .i64 ((x.ext : Nat) : Int), .int .i64 0, .int .i64 0]) (by simp [results, Try.results84, go_sem, r0, r1, r2, r3, r4, r5, r6, r7, r8, r9, r10, r11, r12, r13, r14]) rfl ?_
      refine ⟨A, c, rfl, ?_, fun _ _ _ => .inl rfl, below_set15 HB3.out (by omega)⟩
      exact rs_other HR3.out (fun D o hne hD => heap_set15 hD hne) (fun B o e => (HA3.out B o e).2)
set_option maxHeartbeats 16000000 in
theorem rdrop_far (A : Option Addr) (c : Nat) (v : Vol) (x : Ino) (k : Nat) (w : World) (hr : RS w A v) (hv : okV v = true) (hk : k < 70) (hk6 : 6 ≤ k) (hg : goodN (dataV v) v.length x.ind = true) :
    Calls Try.prog 84 #[.slice A v.length c, .agg #[.int .i64 ((x.kind : Nat) : Int), .int .i64 ((x.links : Nat) : Int), .int .i64 ((x.owner : Nat) : Int), .int .i64 ((x.size : Nat) : Int), .int .i64 ((x.d0 : Nat) : Int), .int .i64 ((x.d1 : Nat) : Int), .int .i64 ((x.d2 : Nat) : Int), .int .i64 ((x.d3 : Nat) : Int), .int .i64 ((x.d4 : Nat) : Int), .int .i64 ((x.d5 : Nat) : Int), .int .i64 ((x.ind : Nat) : Int), .int .i64 ((x.ext : Nat) : Int)], .int .i64 k] w fun e w' => ∃ A' c', e = .returned (.agg #[.slice A' v.length c', .int .i64 ((x.kind : Nat) : Int), .int .i64 ((x.links : Nat) : Int), .int .i64 ((x.owner : Nat) : Int), .int .i64 ((x.size : Nat) : Int), .int .i64 ((x.d0 : Nat) : Int), .int .i64 ((x.d1 : Nat) : Int), .int .i64 ((x.d2 : Nat) : Int), .int .i64 ((x.d3 : Nat) : Int), .int .i64 ((x.d4 : Nat) : Int), .int .i64 ((x.d5 : Nat) : Int), .int .i64 ((x.ind : Nat) : Int), .int .i64 ((x.ext : Nat) : Int), .int .i64 0, .int .i64 0]) ∧ RS w' A' ((dropG (dataV v) v x k).set x.ind (put2 (bk (dropG (dataV v) v x k) x.ind) (2 * (k - 6)) 0)) ∧ (∀ B o, A' = some ⟨B, o, none⟩ → A = A' ∨ w.heap.size ≤ B) ∧ Below w.heap.size w w' := by
  obtain ⟨hB0, hq0, hq1⟩ := place_start x w _ rfl
  have HB0 := Lib.hid hB0
  have HQ0 := Lib.hid hq0
  have HQ1 := Lib.hid hq1
  obtain ⟨x0, x1, x2, x3, x4, x5, x6, x7, x8, x9, x10, x11⟩ := cells12 hq0
  have HR := Lib.hid hr
  have H := okV_iff.1 hv
  have hd0 : 0 < dataV v := by rw [dataV]; omega
  have hhi := H.hi
  have hdat := Lib.hid (fun w hr => rdata_ok A c v w hr hv)
  have hat := Lib.hid (fun w hr => rat_ok A c (dataV v) v.length v x k w hr rfl hk hd0 H.size)
  have HB00 := HB0.out.size
  have hlo := H.lo
  have hkd := kept_dropG hv x k
  have hdl := hkd.len
  have hdz : ∀ j, j < v.length → (bk (dropG (dataV v) v x k) j).length = 128 := fun j hj => (okV_iff.1 hkd.ok).size j (by rw [hdl]; exact hj)
  obtain ⟨V, hV⟩ : ∃ V, dropG (dataV v) v x k = V := ⟨_, rfl⟩
  rw [hV] at hdl hdz ⊢
  clear hkd
  have hki : ¬ (k : Int) < 6 := by omega
  have hgz := goodZ_yes hg
  have HGZ := Lib.hid hgz
  have hgl := (goodN_iff.1 hg).2
  have hgd := (goodN_iff.1 hg).1
  have hin : (0 : Int) < (x.ind : Int) := by omega
  have hi1 : (x.ind : Int) < (v.length : Nat) := by omega
  have hsb := hdz x.ind hgl
  obtain ⟨j, hj⟩ : ∃ j, k - 6 = j := ⟨_, rfl⟩
  have hj1 : (k : Int) - 6 = (j : Int) := by omega
  have hwj : IntKind.i64.wrap (j : Int) = (j : Int) := by simp [IntKind.wrap, IntKind.bits, IntKind.signed]; omega
  rw [hj]
  obtain ⟨p, hp⟩ : ∃ p, 2 * j = p := ⟨_, rfl⟩
  have hp1 : (2 : Int) * (j : Int) = (p : Int) := by omega
  have hwp : IntKind.i64.wrap (p : Int) = (p : Int) := by simp [IntKind.wrap, IntKind.bits, IntKind.signed]; omega
  rw [hp]
  have HT := Lib.hid hdl
  obtain ⟨sb, hsb'⟩ : ∃ sb, bk V x.ind = sb := ⟨_, rfl⟩
  rw [hsb'] at hsb ⊢
  have HSB := Lib.hid hsb'
  have hput := Lib.hid (fun w => put19_ok sb p 0 w hsb (by omega) (by omega))
  clear hsb' hdl hdz hgz hg
  have HRA : Hid (∀ B o, A = some ⟨B, o, none⟩ → B ≠ w.heap.size ∧ B ≠ w.heap.size + 1) := Lib.hid (fun B o e => by
    obtain ⟨b', o', e', hb', _⟩ := HR.out.open_ (by omega)
    rw [e] at e'
    cases e'
    omega)
  by_cases h0 : atN (dataV v) v.length v x k = 0
  · have HVE := Lib.hid (show V = v by rw [← hV, dropG, if_pos h0])
    rw [h0] at hat
    have HF3 : Hid (∀ B o, A = some ⟨B, o, none⟩ → A = A ∨ w.heap.size ≤ B) := Lib.hid (fun _ _ _ => .inl rfl)
    have HA3 := HRA
    clear h0 hV hv H hB0 hq0 hq1 hr
    generalize dataV v = d at *
    go_enter Try.func84, Try.ntmps84
    go_upto_region 9 with (first
      | (go_at_call 56; refine (hdat.out _ (HR.out.below HB0.out)).mono ?_; rintro e w1 ⟨rfl, hb1⟩; have HB1 := Lib.hid (below_keep HB0.out (Nat.le_refl _) hb1); have hq0 := blk_keep HQ0.out hb1; obtain ⟨x0, x1, x2, x3, x4, x5, x6, x7, x8, x9, x10, x11⟩ := cells12 hq0; have HP0 := Lib.hid hq0; have HP1 := Lib.hid (blk_keep HQ1.out hb1); clear hb1 hq0)
      | (go_at_call 59; refine (hat.out _ (HR.out.below HB1.out)).mono ?_; rintro e w2 ⟨rfl, hb2⟩; have HB2 := Lib.hid (below_keep HB1.out (Nat.le_refl _) hb2); have hq0 := blk_keep HP0.out hb2; have hq1 := blk_keep HP1.out hb2; obtain ⟨x0, x1, x2, x3, x4, x5, x6, x7, x8, x9, x10, x11⟩ := cells12 hq0; obtain ⟨z0, z1, z2, z3, z4, z5, z6, z7, z8, z9, z10, z11, z12, z13, z14⟩ := cells15 hq1; obtain ⟨f0, f1, f2, f3, f4, f5, f6, f7, f8, f9, f10, f11, f12, f13, f14⟩ := frees15 hq1; have HU0 := Lib.hid hq0; have HU1 := Lib.hid hq1; clear hb2 hq0 hq1))
    have HR3 : Hid (RS w2 A V) := Lib.hid (by rw [HVE.out]; exact HR.out.below HB2.out)
    have HB3 := HB2
    have HT0 := HU0
    have HT1 := HU1
    clear z0 z1 z2 z3 z4 z5 z6 z7 z8 z9 z10 z11 z12 z13 z14 f0 f1 f2 f3 f4 f5 f6 f7 f8 f9 f10 f11 f12 f13 f14
    obtain ⟨bA, oA, hAe, hbA, hc3⟩ := HR3.out.open_ (by rw [HT.out]; omega)
    subst hAe
    have hcs := hc3 x.ind (by rw [HT.out]; exact hgl)
    rw [HSB.out] at hcs
    clear hc3
    have i0 := x10
    have HWI := Lib.hid (fun A' c' w hr => rwith19_ok A' c' V x.ind (put2 sb p 0) w v.length HT.out hr (by rw [HT.out]; exact hgl))
    go_upto_region 10 with (first
        | (go_at_call 64; refine (rgood_ok (some ⟨bA, oA, none⟩) c v.length d x.ind _ (by omega)).mono ?_; rw [HGZ.out]; rintro e w8 ⟨rfl, rfl⟩))
    refine region_P (fun w' => w'.cell? ⟨w.heap.size, 10, none⟩ = some (.int .i64 x.ind) ∧ w'.cell? ⟨bA, oA + x.ind, none⟩ = some (.string (mk sb))) [] (by kernel_rfl) ?_ (fun hHeld => ?_)
    · exact ⟨i0, hcs⟩
    refine wpP_take (i := 0) (oi := ?oi329001) (v := ?v329001) ?hi329001 (by kernel_rfl) (by kernel_rfl) (by kernel_rfl) (by kernel_rfl) ?hQ329001 ?hy329001 (by assumption) ?rest329001
    case hi329001 => (simp only [List.getElem?_toArray, List.getElem?_cons_succ, List.getElem?_cons_zero]; exact rfl)
    case hQ329001 => exact fun _ _ _ h => h
    case hy329001 => (refine Or.inl ⟨by kernel_rfl, ?_⟩; intro w hSw; (try dsimp only at hSw); go_simp; try (with_reducible rfl))
    try simp only [Act.put, List.setIfInBounds_toArray, List.set_cons_zero, List.set_cons_succ]
    refine wpP_take (i := 1) (oi := ?oi329002) (v := ?v329002) ?hi329002 (by kernel_rfl) (by kernel_rfl) (by kernel_rfl) (by kernel_rfl) ?hQ329002 ?hy329002 (by assumption) ?rest329002
    case hi329002 => (simp only [List.getElem?_toArray, List.getElem?_cons_succ, List.getElem?_cons_zero]; exact rfl)
    case hQ329002 => exact fun _ _ _ h => h
    case hy329002 => (refine Or.inl ⟨by kernel_rfl, ?_⟩; intro w hSw; (try dsimp only at hSw); go_simp; try (with_reducible rfl))
    try simp only [Act.put, List.setIfInBounds_toArray, List.set_cons_zero, List.set_cons_succ]
    refine wpP_take (i := 2) (oi := ?oi329003) (v := ?v329003) ?hi329003 (by kernel_rfl) (by kernel_rfl) (by kernel_rfl) (by kernel_rfl) ?hQ329003 ?hy329003 (by assumption) ?rest329003
    case hi329003 => (simp only [List.getElem?_toArray, List.getElem?_cons_succ, List.getElem?_cons_zero]; exact rfl)
    case hQ329003 => exact fun _ _ _ h => h
    case hy329003 => (refine Or.inl ⟨by kernel_rfl, ?_⟩; intro w hSw; (try dsimp only at hSw); go_simp; try (with_reducible rfl))
    try simp only [Act.put, List.setIfInBounds_toArray, List.set_cons_zero, List.set_cons_succ]
    refine wpP_take (i := 3) (oi := ?oi329004) (v := ?v329004) ?hi329004 (by kernel_rfl) (by kernel_rfl) (by kernel_rfl) (by kernel_rfl) ?hQ329004 ?hy329004 (by assumption) ?rest329004
    case hi329004 => (simp only [List.getElem?_toArray, List.getElem?_cons_succ, List.getElem?_cons_zero]; exact rfl)
    case hQ329004 => exact fun _ _ _ h => h
    case hy329004 => (refine Or.inl ⟨by kernel_rfl, ?_⟩; intro w hSw; (try dsimp only at hSw); go_simp; try (with_reducible rfl))
    try simp only [Act.put, List.setIfInBounds_toArray, List.set_cons_zero, List.set_cons_succ]
    refine wpP_take (i := 4) (oi := ?oi329005) (v := ?v329005) ?hi329005 (by kernel_rfl) (by kernel_rfl) (by kernel_rfl) (by kernel_rfl) ?hQ329005 ?hy329005 (by assumption) ?rest329005
    case hi329005 => (simp only [List.getElem?_toArray, List.getElem?_cons_succ, List.getElem?_cons_zero]; exact rfl)
    case hQ329005 => exact fun _ _ _ h => h
    case hy329005 => (refine Or.inl ⟨by kernel_rfl, ?_⟩; intro w hSw; (try dsimp only at hSw); go_simp; try (with_reducible rfl))
    try simp only [Act.put, List.setIfInBounds_toArray, List.set_cons_zero, List.set_cons_succ]
    refine wpP_take (i := 5) (oi := ?oi329006) (v := ?v329006) ?hi329006 (by kernel_rfl) (by kernel_rfl) (by kernel_rfl) (by kernel_rfl) ?hQ329006 ?hy329006 (by assumption) ?rest329006
    case hi329006 => (simp only [List.getElem?_toArray, List.getElem?_cons_succ, List.getElem?_cons_zero]; exact rfl)
    case hQ329006 => exact fun _ _ _ h => h
    case hy329006 => (refine Or.inl ⟨by kernel_rfl, ?_⟩; intro w hSw; (try dsimp only at hSw); go_simp; try (with_reducible rfl))
    try simp only [Act.put, List.setIfInBounds_toArray, List.set_cons_zero, List.set_cons_succ]
    refine wpP_take (i := 6) (oi := ?oi329007) (v := ?v329007) ?hi329007 (by kernel_rfl) (by kernel_rfl) (by kernel_rfl) (by kernel_rfl) ?hQ329007 ?hy329007 (by assumption) ?rest329007
    case hi329007 => (simp only [List.getElem?_toArray, List.getElem?_cons_succ, List.getElem?_cons_zero]; exact rfl)
    case hQ329007 => exact fun _ _ _ h => h
    case hy329007 => (refine Or.inl ⟨by kernel_rfl, ?_⟩; intro w hSw; (try dsimp only at hSw); go_simp; try (with_reducible rfl))
    try simp only [Act.put, List.setIfInBounds_toArray, List.set_cons_zero, List.set_cons_succ]
    refine wpP_take (i := 7) (oi := ?oi329008) (v := ?v329008) ?hi329008 (by kernel_rfl) (by kernel_rfl) (by kernel_rfl) (by kernel_rfl) ?hQ329008 ?hy329008 (by assumption) ?rest329008
    case hi329008 => (simp only [List.getElem?_toArray, List.getElem?_cons_succ, List.getElem?_cons_zero]; exact rfl)
    case hQ329008 => exact fun _ _ _ h => h
    case hy329008 => (refine Or.inl ⟨by kernel_rfl, ?_⟩; intro w hSw; (try dsimp only at hSw); go_simp; try (with_reducible rfl))
    try simp only [Act.put, List.setIfInBounds_toArray, List.set_cons_zero, List.set_cons_succ]
    refine wpP_take (i := 8) (oi := ?oi329009) (v := ?v329009) ?hi329009 (by kernel_rfl) (by kernel_rfl) (by kernel_rfl) (by kernel_rfl) ?hQ329009 ?hy329009 (by assumption) ?rest329009
    case hi329009 => (simp only [List.getElem?_toArray, List.getElem?_cons_succ, List.getElem?_cons_zero]; exact rfl)
    case hQ329009 => exact fun _ _ _ h => h
    case hy329009 => (refine Or.inl ⟨by kernel_rfl, ?_⟩; intro w hSw; (try dsimp only at hSw); go_simp; try (with_reducible rfl))
    try simp only [Act.put, List.setIfInBounds_toArray, List.set_cons_zero, List.set_cons_succ]
    refine wpP_take (i := 9) (oi := ?oi329010) (v := ?v329010) ?hi329010 (by kernel_rfl) (by kernel_rfl) (by kernel_rfl) (by kernel_rfl) ?hQ329010 ?hy329010 (by assumption) ?rest329010
    case hi329010 => (simp only [List.getElem?_toArray, List.getElem?_cons_succ, List.getElem?_cons_zero]; exact rfl)
    case hQ329010 => exact fun _ _ _ h => h
    case hy329010 => (refine Or.inl ⟨by kernel_rfl, ?_⟩; intro w hSw; (try dsimp only at hSw); go_simp; try (with_reducible rfl))
    try simp only [Act.put, List.setIfInBounds_toArray, List.set_cons_zero, List.set_cons_succ]
    refine wpP_take (i := 10) (oi := ?oi329011) (v := ?v329011) ?hi329011 (by kernel_rfl) (by kernel_rfl) (by kernel_rfl) (by kernel_rfl) ?hQ329011 ?hy329011 (by assumption) ?rest329011
    case hi329011 => (simp only [List.getElem?_toArray, List.getElem?_cons_succ, List.getElem?_cons_zero]; exact rfl)
    case hQ329011 => exact fun _ _ _ h => h
    case hy329011 => (refine Or.inl ⟨by kernel_rfl, ?_⟩; intro w hSw; (try dsimp only at hSw); go_simp; try (with_reducible rfl))
    try simp only [Act.put, List.setIfInBounds_toArray, List.set_cons_zero, List.set_cons_succ]
    refine wpP_ready (rs := [11]) (by kernel_rfl) (by simp) ?_
    refine AllP.cons (o := ?o329012) ?ho329012 (fun K hK => ?_) AllP.nil
    case ho329012 => (simp only [List.getElem?_toArray, List.getElem?_cons_succ, List.getElem?_cons_zero]; exact rfl)
    go_simp
    go_at_call 113
    refine (hput.out _).mono ?_
    rintro e w5 ⟨rfl, hb5⟩
    have k5 : Below w2.heap.size w2 w5 := below_und hb5
    refine hK.out _ _ ?_ (fun hHeld => ?_)
    · exact ⟨cell_keep hHeld.1 hb5, cell_keep hHeld.2 hb5⟩
    clear hK K
    try simp only [Act.put, List.setIfInBounds_toArray, List.set_cons_zero, List.set_cons_succ]
    refine wpP_ready (rs := [12]) (by kernel_rfl) (by simp) ?_
    refine AllP.cons (o := ?o329013) ?ho329013 (fun K hK => ?_) AllP.nil
    case ho329013 => (simp only [List.getElem?_toArray, List.getElem?_cons_succ, List.getElem?_cons_zero]; exact rfl)
    go_simp
    go_at_call 81
    refine (HWI.out _ _ _ (HR3.out.below k5)).mono ?_
    rintro e w6 ⟨g6, c6, rfl, hg6, hgs6, hb6⟩
    have k6 : Below w2.heap.size w2 w6 := below_more k5 k5.size hb6
    have hq0 := blk_keep HT0.out k6
    obtain ⟨x0, x1, x2, x3, x4, x5, x6, x7, x8, x9, x10, x11⟩ := cells12 hq0
    have hu2 := blk_keep HT1.out k6
    obtain ⟨fr0, fr1, fr2, fr3, fr4, fr5, fr6, fr7, fr8, fr9, fr10, fr11, fr12, fr13, fr14⟩ := frees15 hu2
    obtain ⟨u0, u1, u2, u3, u4, u5, u6, u7, u8, u9, u10, u11, u12, u13, u14⟩ := cells15 hu2
    have HU9 := Lib.hid hu2
    refine hK.out _ _ ?_ (fun hHeld => ?_)
    · exact ⟨cell_keep hHeld.1 hb6, cell_keep hHeld.2 hb6⟩
    clear hK K
    try simp only [Act.put, List.setIfInBounds_toArray, List.set_cons_zero, List.set_cons_succ]
    refine wpP_take (i := 13) (oi := ?oi329014) (v := ?v329014) ?hi329014 (by kernel_rfl) (by kernel_rfl) (by kernel_rfl) (by kernel_rfl) ?hQ329014 ?hy329014 (by assumption) ?rest329014
    case hi329014 => (simp only [List.getElem?_toArray, List.getElem?_cons_succ, List.getElem?_cons_zero]; exact rfl)
    case hQ329014 => exact fun _ _ _ h => h
    case hy329014 => (refine Or.inl ⟨by kernel_rfl, ?_⟩; intro w hSw; (try dsimp only at hSw); go_simp; try (with_reducible rfl))
    try simp only [Act.put, List.setIfInBounds_toArray, List.set_cons_zero, List.set_cons_succ]
    refine wpP_done (by kernel_rfl) ?_ _
    go_wp2
    have hbf := blk_set15 (a0 := .slice (some ⟨g6, 0, none⟩) v.length c6) (a1 := .int .i64 ((x.kind : Nat) : Int)) (a2 := .int .i64 ((x.links : Nat) : Int)) (a3 := .int .i64 ((x.owner : Nat) : Int)) (a4 := .int .i64 ((x.size : Nat) : Int)) (a5 := .int .i64 ((x.d0 : Nat) : Int)) (a6 := .int .i64 ((x.d1 : Nat) : Int)) (a7 := .int .i64 ((x.d2 : Nat) : Int)) (a8 := .int .i64 ((x.d3 : Nat) : Int)) (a9 := .int .i64 ((x.d4 : Nat) : Int)) (a10 := .int .i64 ((x.d5 : Nat) : Int)) (a11 := .int .i64 ((x.ind : Nat) : Int)) (a12 := .int .i64 ((x.ext : Nat) : Int)) (a13 := .int .i64 0) (a14 := .int .i64 0) HU9.out
    obtain ⟨r0, r1, r2, r3, r4, r5, r6, r7, r8, r9, r10, r11, r12, r13, r14⟩ := cells15 hbf
    refine bodyPost_ret (v := .agg #[.slice (some ⟨g6, 0, none⟩) v.length c6, .int .i64 ((x.kind : Nat) : Int), .int .i64 ((x.links : Nat) : Int), .int .i64 ((x.owner : Nat) : Int), .int .i64 ((x.size : Nat) : Int), .int .i64 ((x.d0 : Nat) : Int), .int .i64 ((x.d1 : Nat) : Int), .int .i64 ((x.d2 : Nat) : Int), .int .i64 ((x.d3 : Nat) : Int), .int .i64 ((x.d4 : Nat) : Int), .int .i64 ((x.d5 : Nat) : Int), .int .i64 ((x.ind : Nat) : Int), .int .i64 ((x.ext : Nat) : Int), .int .i64 0, .int .i64 0]) (by simp [results, Try.results84, go_sem, r0, r1, r2, r3, r4, r5, r6, r7, r8, r9, r10, r11, r12, r13, r14]) rfl ?_
    have s7 := k5.size
    have s8 := blk_lt HT1.out
    refine ⟨some ⟨g6, 0, none⟩, c6, rfl, ?_, fun B o e => .inr (by cases e; omega), below_set15 (below_keep HB3.out (Nat.le_refl _) k6) (by omega)⟩
    exact rs_other (hg6.rs (by rw [List.length_set, HT.out]; omega)) (fun D o hne hD => heap_set15 hD hne) (fun B o e => by cases e; omega)
  · obtain ⟨b1, b2⟩ := atN_lt' h0
    obtain ⟨b, hb⟩ : ∃ b, atN (dataV v) v.length v x k = b := ⟨_, rfl⟩
    have hV' : V = giveV v b := by rw [← hV, dropG, if_neg h0, hb]
    rw [hb] at hat b1 b2
    have hbi : (0 : Int) < (b : Int) := by omega
    by_cases hbt : bit (bk v 2) b = true
    · have hgv := Lib.hid (fun w hr => rgive_rs A c v b w hr hv b1 b2 hbt)
      rw [← hV'] at hgv
      clear h0 hV hv H hB0 hq0 hq1 hr hb hV'
      generalize dataV v = d at *
      go_enter Try.func84, Try.ntmps84
      go_upto_region 9 with (first
        | (go_at_call 56; refine (hdat.out _ (HR.out.below HB0.out)).mono ?_; rintro e w1 ⟨rfl, hb1⟩; have HB1 := Lib.hid (below_keep HB0.out (Nat.le_refl _) hb1); have hq0 := blk_keep HQ0.out hb1; obtain ⟨x0, x1, x2, x3, x4, x5, x6, x7, x8, x9, x10, x11⟩ := cells12 hq0; have HP0 := Lib.hid hq0; have HP1 := Lib.hid (blk_keep HQ1.out hb1); clear hb1 hq0)
        | (go_at_call 59; refine (hat.out _ (HR.out.below HB1.out)).mono ?_; rintro e w2 ⟨rfl, hb2⟩; have HB2 := Lib.hid (below_keep HB1.out (Nat.le_refl _) hb2); have hq0 := blk_keep HP0.out hb2; have hq1 := blk_keep HP1.out hb2; obtain ⟨x0, x1, x2, x3, x4, x5, x6, x7, x8, x9, x10, x11⟩ := cells12 hq0; obtain ⟨z0, z1, z2, z3, z4, z5, z6, z7, z8, z9, z10, z11, z12, z13, z14⟩ := cells15 hq1; obtain ⟨f0, f1, f2, f3, f4, f5, f6, f7, f8, f9, f10, f11, f12, f13, f14⟩ := frees15 hq1; have HU0 := Lib.hid hq0; have HU1 := Lib.hid hq1; clear hb2 hq0 hq1)
        | (go_at_call 85; refine (hgv.out _ (HR.out.below HB2.out)).mono ?_; rintro e w3 ⟨A3, c3, rfl, hr3, hf3, hb3⟩; have HB3 := Lib.hid (below_keep HB2.out (Nat.le_refl _) hb3); have HR3 := Lib.hid hr3; have HF30 := Lib.hid hf3; have s2 := HB2.out.size; clear hr3 hf3; have sU := blk_lt HU1.out; clear x0 x1 x2 x3 x4 x5 x6 x7 x8 x9 x10 x11 z0 z1 z2 z3 z4 z5 z6 z7 z8 z9 z10 z11 z12 z13 z14 f0 f1 f2 f3 f4 f5 f6 f7 f8 f9 f10 f11 f12 f13 f14; have hq0 := blk_keep HU0.out hb3; have hq1 := blk_keep HU1.out hb3; obtain ⟨x0, x1, x2, x3, x4, x5, x6, x7, x8, x9, x10, x11⟩ := cells12 hq0; obtain ⟨z0, z1, z2, z3, z4, z5, z6, z7, z8, z9, z10, z11, z12, z13, z14⟩ := cells15 hq1; obtain ⟨f0, f1, f2, f3, f4, f5, f6, f7, f8, f9, f10, f11, f12, f13, f14⟩ := frees15 hq1; have HT0 := Lib.hid hq0; have HT1 := Lib.hid hq1; clear hb3 hq0 hq1))
      have HF3 : Hid (∀ B o, A3 = some ⟨B, o, none⟩ → A = A3 ∨ w.heap.size ≤ B) := Lib.hid (fun B o e => .inr (by have := HF30.out B o e; omega))
      have HA3 : Hid (∀ B o, A3 = some ⟨B, o, none⟩ → B ≠ w.heap.size ∧ B ≠ w.heap.size + 1) := Lib.hid (fun B o e => by have := HF30.out B o e; omega)
      clear z0 z1 z2 z3 z4 z5 z6 z7 z8 z9 z10 z11 z12 z13 z14 f0 f1 f2 f3 f4 f5 f6 f7 f8 f9 f10 f11 f12 f13 f14
      obtain ⟨bA, oA, hAe, hbA, hc3⟩ := HR3.out.open_ (by rw [HT.out]; omega)
      subst hAe
      have hcs := hc3 x.ind (by rw [HT.out]; exact hgl)
      rw [HSB.out] at hcs
      clear hc3
      have i0 := x10
      have HWI := Lib.hid (fun A' c' w hr => rwith19_ok A' c' V x.ind (put2 sb p 0) w v.length HT.out hr (by rw [HT.out]; exact hgl))
      go_upto_region 10 with (first
          | (go_at_call 64; refine (rgood_ok (some ⟨bA, oA, none⟩) c3 v.length d x.ind _ (by omega)).mono ?_; rw [HGZ.out]; rintro e w8 ⟨rfl, rfl⟩))
      refine region_P (fun w' => w'.cell? ⟨w.heap.size, 10, none⟩ = some (.int .i64 x.ind) ∧ w'.cell? ⟨bA, oA + x.ind, none⟩ = some (.string (mk sb))) [] (by kernel_rfl) ?_ (fun hHeld => ?_)
      · exact ⟨i0, hcs⟩
      refine wpP_take (i := 0) (oi := ?oi329015) (v := ?v329015) ?hi329015 (by kernel_rfl) (by kernel_rfl) (by kernel_rfl) (by kernel_rfl) ?hQ329015 ?hy329015 (by assumption) ?rest329015
      case hi329015 => (simp only [List.getElem?_toArray, List.getElem?_cons_succ, List.getElem?_cons_zero]; exact rfl)
      case hQ329015 => exact fun _ _ _ h => h
      case hy329015 => (refine Or.inl ⟨by kernel_rfl, ?_⟩; intro w hSw; (try dsimp only at hSw); go_simp; try (with_reducible rfl))
      try simp only [Act.put, List.setIfInBounds_toArray, List.set_cons_zero, List.set_cons_succ]
      refine wpP_take (i := 1) (oi := ?oi329016) (v := ?v329016) ?hi329016 (by kernel_rfl) (by kernel_rfl) (by kernel_rfl) (by kernel_rfl) ?hQ329016 ?hy329016 (by assumption) ?rest329016
      case hi329016 => (simp only [List.getElem?_toArray, List.getElem?_cons_succ, List.getElem?_cons_zero]; exact rfl)
      case hQ329016 => exact fun _ _ _ h => h
      case hy329016 => (refine Or.inl ⟨by kernel_rfl, ?_⟩; intro w hSw; (try dsimp only at hSw); go_simp; try (with_reducible rfl))
      try simp only [Act.put, List.setIfInBounds_toArray, List.set_cons_zero, List.set_cons_succ]
      refine wpP_take (i := 2) (oi := ?oi329017) (v := ?v329017) ?hi329017 (by kernel_rfl) (by kernel_rfl) (by kernel_rfl) (by kernel_rfl) ?hQ329017 ?hy329017 (by assumption) ?rest329017
      case hi329017 => (simp only [List.getElem?_toArray, List.getElem?_cons_succ, List.getElem?_cons_zero]; exact rfl)
      case hQ329017 => exact fun _ _ _ h => h
      case hy329017 => (refine Or.inl ⟨by kernel_rfl, ?_⟩; intro w hSw; (try dsimp only at hSw); go_simp; try (with_reducible rfl))
      try simp only [Act.put, List.setIfInBounds_toArray, List.set_cons_zero, List.set_cons_succ]
      refine wpP_take (i := 3) (oi := ?oi329018) (v := ?v329018) ?hi329018 (by kernel_rfl) (by kernel_rfl) (by kernel_rfl) (by kernel_rfl) ?hQ329018 ?hy329018 (by assumption) ?rest329018
      case hi329018 => (simp only [List.getElem?_toArray, List.getElem?_cons_succ, List.getElem?_cons_zero]; exact rfl)
      case hQ329018 => exact fun _ _ _ h => h
      case hy329018 => (refine Or.inl ⟨by kernel_rfl, ?_⟩; intro w hSw; (try dsimp only at hSw); go_simp; try (with_reducible rfl))
      try simp only [Act.put, List.setIfInBounds_toArray, List.set_cons_zero, List.set_cons_succ]
      refine wpP_take (i := 4) (oi := ?oi329019) (v := ?v329019) ?hi329019 (by kernel_rfl) (by kernel_rfl) (by kernel_rfl) (by kernel_rfl) ?hQ329019 ?hy329019 (by assumption) ?rest329019
      case hi329019 => (simp only [List.getElem?_toArray, List.getElem?_cons_succ, List.getElem?_cons_zero]; exact rfl)
      case hQ329019 => exact fun _ _ _ h => h
      case hy329019 => (refine Or.inl ⟨by kernel_rfl, ?_⟩; intro w hSw; (try dsimp only at hSw); go_simp; try (with_reducible rfl))
      try simp only [Act.put, List.setIfInBounds_toArray, List.set_cons_zero, List.set_cons_succ]
      refine wpP_take (i := 5) (oi := ?oi329020) (v := ?v329020) ?hi329020 (by kernel_rfl) (by kernel_rfl) (by kernel_rfl) (by kernel_rfl) ?hQ329020 ?hy329020 (by assumption) ?rest329020
      case hi329020 => (simp only [List.getElem?_toArray, List.getElem?_cons_succ, List.getElem?_cons_zero]; exact rfl)
      case hQ329020 => exact fun _ _ _ h => h
      case hy329020 => (refine Or.inl ⟨by kernel_rfl, ?_⟩; intro w hSw; (try dsimp only at hSw); go_simp; try (with_reducible rfl))
      try simp only [Act.put, List.setIfInBounds_toArray, List.set_cons_zero, List.set_cons_succ]
      refine wpP_take (i := 6) (oi := ?oi329021) (v := ?v329021) ?hi329021 (by kernel_rfl) (by kernel_rfl) (by kernel_rfl) (by kernel_rfl) ?hQ329021 ?hy329021 (by assumption) ?rest329021
      case hi329021 => (simp only [List.getElem?_toArray, List.getElem?_cons_succ, List.getElem?_cons_zero]; exact rfl)
      case hQ329021 => exact fun _ _ _ h => h
      case hy329021 => (refine Or.inl ⟨by kernel_rfl, ?_⟩; intro w hSw; (try dsimp only at hSw); go_simp; try (with_reducible rfl))
      try simp only [Act.put, List.setIfInBounds_toArray, List.set_cons_zero, List.set_cons_succ]
      refine wpP_take (i := 7) (oi := ?oi329022) (v := ?v329022) ?hi329022 (by kernel_rfl) (by kernel_rfl) (by kernel_rfl) (by kernel_rfl) ?hQ329022 ?hy329022 (by assumption) ?rest329022
      case hi329022 => (simp only [List.getElem?_toArray, List.getElem?_cons_succ, List.getElem?_cons_zero]; exact rfl)
      case hQ329022 => exact fun _ _ _ h => h
      case hy329022 => (refine Or.inl ⟨by kernel_rfl, ?_⟩; intro w hSw; (try dsimp only at hSw); go_simp; try (with_reducible rfl))
      try simp only [Act.put, List.setIfInBounds_toArray, List.set_cons_zero, List.set_cons_succ]
      refine wpP_take (i := 8) (oi := ?oi329023) (v := ?v329023) ?hi329023 (by kernel_rfl) (by kernel_rfl) (by kernel_rfl) (by kernel_rfl) ?hQ329023 ?hy329023 (by assumption) ?rest329023
      case hi329023 => (simp only [List.getElem?_toArray, List.getElem?_cons_succ, List.getElem?_cons_zero]; exact rfl)
      case hQ329023 => exact fun _ _ _ h => h
      case hy329023 => (refine Or.inl ⟨by kernel_rfl, ?_⟩; intro w hSw; (try dsimp only at hSw); go_simp; try (with_reducible rfl))
      try simp only [Act.put, List.setIfInBounds_toArray, List.set_cons_zero, List.set_cons_succ]
      refine wpP_take (i := 9) (oi := ?oi329024) (v := ?v329024) ?hi329024 (by kernel_rfl) (by kernel_rfl) (by kernel_rfl) (by kernel_rfl) ?hQ329024 ?hy329024 (by assumption) ?rest329024
      case hi329024 => (simp only [List.getElem?_toArray, List.getElem?_cons_succ, List.getElem?_cons_zero]; exact rfl)
      case hQ329024 => exact fun _ _ _ h => h
      case hy329024 => (refine Or.inl ⟨by kernel_rfl, ?_⟩; intro w hSw; (try dsimp only at hSw); go_simp; try (with_reducible rfl))
      try simp only [Act.put, List.setIfInBounds_toArray, List.set_cons_zero, List.set_cons_succ]
      refine wpP_take (i := 10) (oi := ?oi329025) (v := ?v329025) ?hi329025 (by kernel_rfl) (by kernel_rfl) (by kernel_rfl) (by kernel_rfl) ?hQ329025 ?hy329025 (by assumption) ?rest329025
      case hi329025 => (simp only [List.getElem?_toArray, List.getElem?_cons_succ, List.getElem?_cons_zero]; exact rfl)
      case hQ329025 => exact fun _ _ _ h => h
      case hy329025 => (refine Or.inl ⟨by kernel_rfl, ?_⟩; intro w hSw; (try dsimp only at hSw); go_simp; try (with_reducible rfl))
      try simp only [Act.put, List.setIfInBounds_toArray, List.set_cons_zero, List.set_cons_succ]
      refine wpP_ready (rs := [11]) (by kernel_rfl) (by simp) ?_
      refine AllP.cons (o := ?o329026) ?ho329026 (fun K hK => ?_) AllP.nil
      case ho329026 => (simp only [List.getElem?_toArray, List.getElem?_cons_succ, List.getElem?_cons_zero]; exact rfl)
      go_simp
      go_at_call 113
      refine (hput.out _).mono ?_
      rintro e w5 ⟨rfl, hb5⟩
      have k5 : Below w3.heap.size w3 w5 := below_und hb5
      refine hK.out _ _ ?_ (fun hHeld => ?_)
      · exact ⟨cell_keep hHeld.1 hb5, cell_keep hHeld.2 hb5⟩
      clear hK K
      try simp only [Act.put, List.setIfInBounds_toArray, List.set_cons_zero, List.set_cons_succ]
      refine wpP_ready (rs := [12]) (by kernel_rfl) (by simp) ?_
      refine AllP.cons (o := ?o329027) ?ho329027 (fun K hK => ?_) AllP.nil
      case ho329027 => (simp only [List.getElem?_toArray, List.getElem?_cons_succ, List.getElem?_cons_zero]; exact rfl)
      go_simp
      go_at_call 81
      refine (HWI.out _ _ _ (HR3.out.below k5)).mono ?_
      rintro e w6 ⟨g6, c6, rfl, hg6, hgs6, hb6⟩
      have k6 : Below w3.heap.size w3 w6 := below_more k5 k5.size hb6
      have hq0 := blk_keep HT0.out k6
      obtain ⟨x0, x1, x2, x3, x4, x5, x6, x7, x8, x9, x10, x11⟩ := cells12 hq0
      have hu2 := blk_keep HT1.out k6
      obtain ⟨fr0, fr1, fr2, fr3, fr4, fr5, fr6, fr7, fr8, fr9, fr10, fr11, fr12, fr13, fr14⟩ := frees15 hu2
      obtain ⟨u0, u1, u2, u3, u4, u5, u6, u7, u8, u9, u10, u11, u12, u13, u14⟩ := cells15 hu2
      have HU9 := Lib.hid hu2
      refine hK.out _ _ ?_ (fun hHeld => ?_)
      · exact ⟨cell_keep hHeld.1 hb6, cell_keep hHeld.2 hb6⟩
      clear hK K
      try simp only [Act.put, List.setIfInBounds_toArray, List.set_cons_zero, List.set_cons_succ]
      refine wpP_take (i := 13) (oi := ?oi329028) (v := ?v329028) ?hi329028 (by kernel_rfl) (by kernel_rfl) (by kernel_rfl) (by kernel_rfl) ?hQ329028 ?hy329028 (by assumption) ?rest329028
      case hi329028 => (simp only [List.getElem?_toArray, List.getElem?_cons_succ, List.getElem?_cons_zero]; exact rfl)
      case hQ329028 => exact fun _ _ _ h => h
      case hy329028 => (refine Or.inl ⟨by kernel_rfl, ?_⟩; intro w hSw; (try dsimp only at hSw); go_simp; try (with_reducible rfl))
      try simp only [Act.put, List.setIfInBounds_toArray, List.set_cons_zero, List.set_cons_succ]
      refine wpP_done (by kernel_rfl) ?_ _
      go_wp2
      have hbf := blk_set15 (a0 := .slice (some ⟨g6, 0, none⟩) v.length c6) (a1 := .int .i64 ((x.kind : Nat) : Int)) (a2 := .int .i64 ((x.links : Nat) : Int)) (a3 := .int .i64 ((x.owner : Nat) : Int)) (a4 := .int .i64 ((x.size : Nat) : Int)) (a5 := .int .i64 ((x.d0 : Nat) : Int)) (a6 := .int .i64 ((x.d1 : Nat) : Int)) (a7 := .int .i64 ((x.d2 : Nat) : Int)) (a8 := .int .i64 ((x.d3 : Nat) : Int)) (a9 := .int .i64 ((x.d4 : Nat) : Int)) (a10 := .int .i64 ((x.d5 : Nat) : Int)) (a11 := .int .i64 ((x.ind : Nat) : Int)) (a12 := .int .i64 ((x.ext : Nat) : Int)) (a13 := .int .i64 0) (a14 := .int .i64 0) HU9.out
      obtain ⟨r0, r1, r2, r3, r4, r5, r6, r7, r8, r9, r10, r11, r12, r13, r14⟩ := cells15 hbf
      refine bodyPost_ret (v := .agg #[.slice (some ⟨g6, 0, none⟩) v.length c6, .int .i64 ((x.kind : Nat) : Int), .int .i64 ((x.links : Nat) : Int), .int .i64 ((x.owner : Nat) : Int), .int .i64 ((x.size : Nat) : Int), .int .i64 ((x.d0 : Nat) : Int), .int .i64 ((x.d1 : Nat) : Int), .int .i64 ((x.d2 : Nat) : Int), .int .i64 ((x.d3 : Nat) : Int), .int .i64 ((x.d4 : Nat) : Int), .int .i64 ((x.d5 : Nat) : Int), .int .i64 ((x.ind : Nat) : Int), .int .i64 ((x.ext : Nat) : Int), .int .i64 0, .int .i64 0]) (by simp [results, Try.results84, go_sem, r0, r1, r2, r3, r4, r5, r6, r7, r8, r9, r10, r11, r12, r13, r14]) rfl ?_
      have s7 := k5.size
      have s8 := blk_lt HT1.out
      refine ⟨some ⟨g6, 0, none⟩, c6, rfl, ?_, fun B o e => .inr (by cases e; omega), below_set15 (below_keep HB3.out (Nat.le_refl _) k6) (by omega)⟩
      exact rs_other (hg6.rs (by rw [List.length_set, HT.out]; omega)) (fun D o hne hD => heap_set15 hD hne) (fun B o e => by cases e; omega)
    · have hbt' : bit (bk v 2) b = false := by simpa using hbt
      have HVE := Lib.hid (show V = v by rw [hV', giveV, if_neg hbt])
      have hgv := Lib.hid (fun w hr => rgive_none A c v b w hr hv b1 b2 hbt')
      have HF3 : Hid (∀ B o, A = some ⟨B, o, none⟩ → A = A ∨ w.heap.size ≤ B) := Lib.hid (fun _ _ _ => .inl rfl)
      have HA3 := HRA
      clear h0 hV hv H hB0 hq0 hq1 hr hb hV' hbt hbt'
      generalize dataV v = d at *
      go_enter Try.func84, Try.ntmps84
      go_upto_region 9 with (first
        | (go_at_call 56; refine (hdat.out _ (HR.out.below HB0.out)).mono ?_; rintro e w1 ⟨rfl, hb1⟩; have HB1 := Lib.hid (below_keep HB0.out (Nat.le_refl _) hb1); have hq0 := blk_keep HQ0.out hb1; obtain ⟨x0, x1, x2, x3, x4, x5, x6, x7, x8, x9, x10, x11⟩ := cells12 hq0; have HP0 := Lib.hid hq0; have HP1 := Lib.hid (blk_keep HQ1.out hb1); clear hb1 hq0)
        | (go_at_call 59; refine (hat.out _ (HR.out.below HB1.out)).mono ?_; rintro e w2 ⟨rfl, hb2⟩; have HB2 := Lib.hid (below_keep HB1.out (Nat.le_refl _) hb2); have hq0 := blk_keep HP0.out hb2; have hq1 := blk_keep HP1.out hb2; obtain ⟨x0, x1, x2, x3, x4, x5, x6, x7, x8, x9, x10, x11⟩ := cells12 hq0; obtain ⟨z0, z1, z2, z3, z4, z5, z6, z7, z8, z9, z10, z11, z12, z13, z14⟩ := cells15 hq1; obtain ⟨f0, f1, f2, f3, f4, f5, f6, f7, f8, f9, f10, f11, f12, f13, f14⟩ := frees15 hq1; have HU0 := Lib.hid hq0; have HU1 := Lib.hid hq1; clear hb2 hq0 hq1)
        | (go_at_call 85; refine (hgv.out _ (HR.out.below HB2.out)).mono ?_; rintro e w3 ⟨rfl, hb3⟩; have HB3 := Lib.hid (below_keep HB2.out (Nat.le_refl _) hb3); clear x0 x1 x2 x3 x4 x5 x6 x7 x8 x9 x10 x11 z0 z1 z2 z3 z4 z5 z6 z7 z8 z9 z10 z11 z12 z13 z14 f0 f1 f2 f3 f4 f5 f6 f7 f8 f9 f10 f11 f12 f13 f14; have hq0 := blk_keep HU0.out hb3; have hq1 := blk_keep HU1.out hb3; obtain ⟨x0, x1, x2, x3, x4, x5, x6, x7, x8, x9, x10, x11⟩ := cells12 hq0; obtain ⟨z0, z1, z2, z3, z4, z5, z6, z7, z8, z9, z10, z11, z12, z13, z14⟩ := cells15 hq1; obtain ⟨f0, f1, f2, f3, f4, f5, f6, f7, f8, f9, f10, f11, f12, f13, f14⟩ := frees15 hq1; have HT0 := Lib.hid hq0; have HT1 := Lib.hid hq1; clear hb3 hq0 hq1))
      have HR3 : Hid (RS w3 A V) := Lib.hid (by rw [HVE.out]; exact HR.out.below HB3.out)
      clear z0 z1 z2 z3 z4 z5 z6 z7 z8 z9 z10 z11 z12 z13 z14 f0 f1 f2 f3 f4 f5 f6 f7 f8 f9 f10 f11 f12 f13 f14
      obtain ⟨bA, oA, hAe, hbA, hc3⟩ := HR3.out.open_ (by rw [HT.out]; omega)
      subst hAe
      have hcs := hc3 x.ind (by rw [HT.out]; exact hgl)
      rw [HSB.out] at hcs
      clear hc3
      have i0 := x10
      have HWI := Lib.hid (fun A' c' w hr => rwith19_ok A' c' V x.ind (put2 sb p 0) w v.length HT.out hr (by rw [HT.out]; exact hgl))
      go_upto_region 10 with (first
          | (go_at_call 64; refine (rgood_ok (some ⟨bA, oA, none⟩) c v.length d x.ind _ (by omega)).mono ?_; rw [HGZ.out]; rintro e w8 ⟨rfl, rfl⟩))
      refine region_P (fun w' => w'.cell? ⟨w.heap.size, 10, none⟩ = some (.int .i64 x.ind) ∧ w'.cell? ⟨bA, oA + x.ind, none⟩ = some (.string (mk sb))) [] (by kernel_rfl) ?_ (fun hHeld => ?_)
      · exact ⟨i0, hcs⟩
      refine wpP_take (i := 0) (oi := ?oi329029) (v := ?v329029) ?hi329029 (by kernel_rfl) (by kernel_rfl) (by kernel_rfl) (by kernel_rfl) ?hQ329029 ?hy329029 (by assumption) ?rest329029
      case hi329029 => (simp only [List.getElem?_toArray, List.getElem?_cons_succ, List.getElem?_cons_zero]; exact rfl)
      case hQ329029 => exact fun _ _ _ h => h
      case hy329029 => (refine Or.inl ⟨by kernel_rfl, ?_⟩; intro w hSw; (try dsimp only at hSw); go_simp; try (with_reducible rfl))
      try simp only [Act.put, List.setIfInBounds_toArray, List.set_cons_zero, List.set_cons_succ]
      refine wpP_take (i := 1) (oi := ?oi329030) (v := ?v329030) ?hi329030 (by kernel_rfl) (by kernel_rfl) (by kernel_rfl) (by kernel_rfl) ?hQ329030 ?hy329030 (by assumption) ?rest329030
      case hi329030 => (simp only [List.getElem?_toArray, List.getElem?_cons_succ, List.getElem?_cons_zero]; exact rfl)
      case hQ329030 => exact fun _ _ _ h => h
      case hy329030 => (refine Or.inl ⟨by kernel_rfl, ?_⟩; intro w hSw; (try dsimp only at hSw); go_simp; try (with_reducible rfl))
      try simp only [Act.put, List.setIfInBounds_toArray, List.set_cons_zero, List.set_cons_succ]
      refine wpP_take (i := 2) (oi := ?oi329031) (v := ?v329031) ?hi329031 (by kernel_rfl) (by kernel_rfl) (by kernel_rfl) (by kernel_rfl) ?hQ329031 ?hy329031 (by assumption) ?rest329031
      case hi329031 => (simp only [List.getElem?_toArray, List.getElem?_cons_succ, List.getElem?_cons_zero]; exact rfl)
      case hQ329031 => exact fun _ _ _ h => h
      case hy329031 => (refine Or.inl ⟨by kernel_rfl, ?_⟩; intro w hSw; (try dsimp only at hSw); go_simp; try (with_reducible rfl))
      try simp only [Act.put, List.setIfInBounds_toArray, List.set_cons_zero, List.set_cons_succ]
      refine wpP_take (i := 3) (oi := ?oi329032) (v := ?v329032) ?hi329032 (by kernel_rfl) (by kernel_rfl) (by kernel_rfl) (by kernel_rfl) ?hQ329032 ?hy329032 (by assumption) ?rest329032
      case hi329032 => (simp only [List.getElem?_toArray, List.getElem?_cons_succ, List.getElem?_cons_zero]; exact rfl)
      case hQ329032 => exact fun _ _ _ h => h
      case hy329032 => (refine Or.inl ⟨by kernel_rfl, ?_⟩; intro w hSw; (try dsimp only at hSw); go_simp; try (with_reducible rfl))
      try simp only [Act.put, List.setIfInBounds_toArray, List.set_cons_zero, List.set_cons_succ]
      refine wpP_take (i := 4) (oi := ?oi329033) (v := ?v329033) ?hi329033 (by kernel_rfl) (by kernel_rfl) (by kernel_rfl) (by kernel_rfl) ?hQ329033 ?hy329033 (by assumption) ?rest329033
      case hi329033 => (simp only [List.getElem?_toArray, List.getElem?_cons_succ, List.getElem?_cons_zero]; exact rfl)
      case hQ329033 => exact fun _ _ _ h => h
      case hy329033 => (refine Or.inl ⟨by kernel_rfl, ?_⟩; intro w hSw; (try dsimp only at hSw); go_simp; try (with_reducible rfl))
      try simp only [Act.put, List.setIfInBounds_toArray, List.set_cons_zero, List.set_cons_succ]
      refine wpP_take (i := 5) (oi := ?oi329034) (v := ?v329034) ?hi329034 (by kernel_rfl) (by kernel_rfl) (by kernel_rfl) (by kernel_rfl) ?hQ329034 ?hy329034 (by assumption) ?rest329034
      case hi329034 => (simp only [List.getElem?_toArray, List.getElem?_cons_succ, List.getElem?_cons_zero]; exact rfl)
      case hQ329034 => exact fun _ _ _ h => h
      case hy329034 => (refine Or.inl ⟨by kernel_rfl, ?_⟩; intro w hSw; (try dsimp only at hSw); go_simp; try (with_reducible rfl))
      try simp only [Act.put, List.setIfInBounds_toArray, List.set_cons_zero, List.set_cons_succ]
      refine wpP_take (i := 6) (oi := ?oi329035) (v := ?v329035) ?hi329035 (by kernel_rfl) (by kernel_rfl) (by kernel_rfl) (by kernel_rfl) ?hQ329035 ?hy329035 (by assumption) ?rest329035
      case hi329035 => (simp only [List.getElem?_toArray, List.getElem?_cons_succ, List.getElem?_cons_zero]; exact rfl)
      case hQ329035 => exact fun _ _ _ h => h
      case hy329035 => (refine Or.inl ⟨by kernel_rfl, ?_⟩; intro w hSw; (try dsimp only at hSw); go_simp; try (with_reducible rfl))
      try simp only [Act.put, List.setIfInBounds_toArray, List.set_cons_zero, List.set_cons_succ]
      refine wpP_take (i := 7) (oi := ?oi329036) (v := ?v329036) ?hi329036 (by kernel_rfl) (by kernel_rfl) (by kernel_rfl) (by kernel_rfl) ?hQ329036 ?hy329036 (by assumption) ?rest329036
      case hi329036 => (simp only [List.getElem?_toArray, List.getElem?_cons_succ, List.getElem?_cons_zero]; exact rfl)
      case hQ329036 => exact fun _ _ _ h => h
      case hy329036 => (refine Or.inl ⟨by kernel_rfl, ?_⟩; intro w hSw; (try dsimp only at hSw); go_simp; try (with_reducible rfl))
      try simp only [Act.put, List.setIfInBounds_toArray, List.set_cons_zero, List.set_cons_succ]
      refine wpP_take (i := 8) (oi := ?oi329037) (v := ?v329037) ?hi329037 (by kernel_rfl) (by kernel_rfl) (by kernel_rfl) (by kernel_rfl) ?hQ329037 ?hy329037 (by assumption) ?rest329037
      case hi329037 => (simp only [List.getElem?_toArray, List.getElem?_cons_succ, List.getElem?_cons_zero]; exact rfl)
      case hQ329037 => exact fun _ _ _ h => h
      case hy329037 => (refine Or.inl ⟨by kernel_rfl, ?_⟩; intro w hSw; (try dsimp only at hSw); go_simp; try (with_reducible rfl))
      try simp only [Act.put, List.setIfInBounds_toArray, List.set_cons_zero, List.set_cons_succ]
      refine wpP_take (i := 9) (oi := ?oi329038) (v := ?v329038) ?hi329038 (by kernel_rfl) (by kernel_rfl) (by kernel_rfl) (by kernel_rfl) ?hQ329038 ?hy329038 (by assumption) ?rest329038
      case hi329038 => (simp only [List.getElem?_toArray, List.getElem?_cons_succ, List.getElem?_cons_zero]; exact rfl)
      case hQ329038 => exact fun _ _ _ h => h
      case hy329038 => (refine Or.inl ⟨by kernel_rfl, ?_⟩; intro w hSw; (try dsimp only at hSw); go_simp; try (with_reducible rfl))
      try simp only [Act.put, List.setIfInBounds_toArray, List.set_cons_zero, List.set_cons_succ]
      refine wpP_take (i := 10) (oi := ?oi329039) (v := ?v329039) ?hi329039 (by kernel_rfl) (by kernel_rfl) (by kernel_rfl) (by kernel_rfl) ?hQ329039 ?hy329039 (by assumption) ?rest329039
      case hi329039 => (simp only [List.getElem?_toArray, List.getElem?_cons_succ, List.getElem?_cons_zero]; exact rfl)
      case hQ329039 => exact fun _ _ _ h => h
      case hy329039 => (refine Or.inl ⟨by kernel_rfl, ?_⟩; intro w hSw; (try dsimp only at hSw); go_simp; try (with_reducible rfl))
      try simp only [Act.put, List.setIfInBounds_toArray, List.set_cons_zero, List.set_cons_succ]
      refine wpP_ready (rs := [11]) (by kernel_rfl) (by simp) ?_
      refine AllP.cons (o := ?o329040) ?ho329040 (fun K hK => ?_) AllP.nil
      case ho329040 => (simp only [List.getElem?_toArray, List.getElem?_cons_succ, List.getElem?_cons_zero]; exact rfl)
      go_simp
      go_at_call 113
      refine (hput.out _).mono ?_
      rintro e w5 ⟨rfl, hb5⟩
      have k5 : Below w3.heap.size w3 w5 := below_und hb5
      refine hK.out _ _ ?_ (fun hHeld => ?_)
      · exact ⟨cell_keep hHeld.1 hb5, cell_keep hHeld.2 hb5⟩
      clear hK K
      try simp only [Act.put, List.setIfInBounds_toArray, List.set_cons_zero, List.set_cons_succ]
      refine wpP_ready (rs := [12]) (by kernel_rfl) (by simp) ?_
      refine AllP.cons (o := ?o329041) ?ho329041 (fun K hK => ?_) AllP.nil
      case ho329041 => (simp only [List.getElem?_toArray, List.getElem?_cons_succ, List.getElem?_cons_zero]; exact rfl)
      go_simp
      go_at_call 81
      refine (HWI.out _ _ _ (HR3.out.below k5)).mono ?_
      rintro e w6 ⟨g6, c6, rfl, hg6, hgs6, hb6⟩
      have k6 : Below w3.heap.size w3 w6 := below_more k5 k5.size hb6
      have hq0 := blk_keep HT0.out k6
      obtain ⟨x0, x1, x2, x3, x4, x5, x6, x7, x8, x9, x10, x11⟩ := cells12 hq0
      have hu2 := blk_keep HT1.out k6
      obtain ⟨fr0, fr1, fr2, fr3, fr4, fr5, fr6, fr7, fr8, fr9, fr10, fr11, fr12, fr13, fr14⟩ := frees15 hu2
      obtain ⟨u0, u1, u2, u3, u4, u5, u6, u7, u8, u9, u10, u11, u12, u13, u14⟩ := cells15 hu2
      have HU9 := Lib.hid hu2
      refine hK.out _ _ ?_ (fun hHeld => ?_)
      · exact ⟨cell_keep hHeld.1 hb6, cell_keep hHeld.2 hb6⟩
      clear hK K
      try simp only [Act.put, List.setIfInBounds_toArray, List.set_cons_zero, List.set_cons_succ]
      refine wpP_take (i := 13) (oi := ?oi329042) (v := ?v329042) ?hi329042 (by kernel_rfl) (by kernel_rfl) (by kernel_rfl) (by kernel_rfl) ?hQ329042 ?hy329042 (by assumption) ?rest329042
      case hi329042 => (simp only [List.getElem?_toArray, List.getElem?_cons_succ, List.getElem?_cons_zero]; exact rfl)
      case hQ329042 => exact fun _ _ _ h => h
      case hy329042 => (refine Or.inl ⟨by kernel_rfl, ?_⟩; intro w hSw; (try dsimp only at hSw); go_simp; try (with_reducible rfl))
      try simp only [Act.put, List.setIfInBounds_toArray, List.set_cons_zero, List.set_cons_succ]
      refine wpP_done (by kernel_rfl) ?_ _
      go_wp2
      have hbf := blk_set15 (a0 := .slice (some ⟨g6, 0, none⟩) v.length c6) (a1 := .int .i64 ((x.kind : Nat) : Int)) (a2 := .int .i64 ((x.links : Nat) : Int)) (a3 := .int .i64 ((x.owner : Nat) : Int)) (a4 := .int .i64 ((x.size : Nat) : Int)) (a5 := .int .i64 ((x.d0 : Nat) : Int)) (a6 := .int .i64 ((x.d1 : Nat) : Int)) (a7 := .int .i64 ((x.d2 : Nat) : Int)) (a8 := .int .i64 ((x.d3 : Nat) : Int)) (a9 := .int .i64 ((x.d4 : Nat) : Int)) (a10 := .int .i64 ((x.d5 : Nat) : Int)) (a11 := .int .i64 ((x.ind : Nat) : Int)) (a12 := .int .i64 ((x.ext : Nat) : Int)) (a13 := .int .i64 0) (a14 := .int .i64 0) HU9.out
      obtain ⟨r0, r1, r2, r3, r4, r5, r6, r7, r8, r9, r10, r11, r12, r13, r14⟩ := cells15 hbf
      refine bodyPost_ret (v := .agg #[.slice (some ⟨g6, 0, none⟩) v.length c6, .int .i64 ((x.kind : Nat) : Int), .int .i64 ((x.links : Nat) : Int), .int .i64 ((x.owner : Nat) : Int), .int .i64 ((x.size : Nat) : Int), .int .i64 ((x.d0 : Nat) : Int), .int .i64 ((x.d1 : Nat) : Int), .int .i64 ((x.d2 : Nat) : Int), .int .i64 ((x.d3 : Nat) : Int), .int .i64 ((x.d4 : Nat) : Int), .int .i64 ((x.d5 : Nat) : Int), .int .i64 ((x.ind : Nat) : Int), .int .i64 ((x.ext : Nat) : Int), .int .i64 0, .int .i64 0]) (by simp [results, Try.results84, go_sem, r0, r1, r2, r3, r4, r5, r6, r7, r8, r9, r10, r11, r12, r13, r14]) rfl ?_
      have s7 := k5.size
      have s8 := blk_lt HT1.out
      refine ⟨some ⟨g6, 0, none⟩, c6, rfl, ?_, fun B o e => .inr (by cases e; omega), below_set15 (below_keep HB3.out (Nat.le_refl _) k6) (by omega)⟩
      exact rs_other (hg6.rs (by rw [List.length_set, HT.out]; omega)) (fun D o hne hD => heap_set15 hD hne) (fun B o e => by cases e; omega)
theorem rdrop_ok (A : Option Addr) (c : Nat) (v : Vol) (x : Ino) (k : Nat) (w : World) (hr : RS w A v) (hv : okV v = true) (hk : k < 70) :
    Calls Try.prog 84 #[.slice A v.length c, .agg #[.int .i64 ((x.kind : Nat) : Int), .int .i64 ((x.links : Nat) : Int), .int .i64 ((x.owner : Nat) : Int), .int .i64 ((x.size : Nat) : Int), .int .i64 ((x.d0 : Nat) : Int), .int .i64 ((x.d1 : Nat) : Int), .int .i64 ((x.d2 : Nat) : Int), .int .i64 ((x.d3 : Nat) : Int), .int .i64 ((x.d4 : Nat) : Int), .int .i64 ((x.d5 : Nat) : Int), .int .i64 ((x.ind : Nat) : Int), .int .i64 ((x.ext : Nat) : Int)], .int .i64 k] w fun e w' => ∃ A' c', e = .returned (.agg #[.slice A' v.length c', .int .i64 ((((dropV v x k).2).kind : Nat) : Int), .int .i64 ((((dropV v x k).2).links : Nat) : Int), .int .i64 ((((dropV v x k).2).owner : Nat) : Int), .int .i64 ((((dropV v x k).2).size : Nat) : Int), .int .i64 ((((dropV v x k).2).d0 : Nat) : Int), .int .i64 ((((dropV v x k).2).d1 : Nat) : Int), .int .i64 ((((dropV v x k).2).d2 : Nat) : Int), .int .i64 ((((dropV v x k).2).d3 : Nat) : Int), .int .i64 ((((dropV v x k).2).d4 : Nat) : Int), .int .i64 ((((dropV v x k).2).d5 : Nat) : Int), .int .i64 ((((dropV v x k).2).ind : Nat) : Int), .int .i64 ((((dropV v x k).2).ext : Nat) : Int), .int .i64 0, .int .i64 0]) ∧ RS w' A' (dropV v x k).1 ∧ (∀ B o, A' = some ⟨B, o, none⟩ → A = A' ∨ w.heap.size ≤ B) ∧ Below w.heap.size w w' := by
  have hl := (kept_dropG hv x k).len
  by_cases hk6 : k < 6
  · have h1 : (dropV v x k).1 = dropG (dataV v) v x k := by rw [dropV, nameV, if_pos hk6]
    have h2 : (dropV v x k).2 = x.setD k 0 := by rw [dropV, nameX, if_pos hk6]
    rw [h1, h2]
    exact rdrop_near A c v x k w hr hv hk hk6
  · have h2 : (dropV v x k).2 = x := by rw [dropV, nameX, if_neg hk6]
    by_cases hg : goodN (dataV v) v.length x.ind = true
    · have h1 : (dropV v x k).1 = (dropG (dataV v) v x k).set x.ind (put2 (bk (dropG (dataV v) v x k) x.ind) (2 * (k - 6)) 0) := by rw [dropV, nameV, if_neg hk6, hl, if_pos hg]
      rw [h1, h2]
      exact rdrop_far A c v x k w hr hv hk (by omega) hg
    · have h1 : (dropV v x k).1 = dropG (dataV v) v x k := by rw [dropV, nameV, if_neg hk6, hl, if_neg hg]
      rw [h1, h2]
      exact rdrop_none A c v x k w hr hv hk (by omega) (by simpa using hg)
end Go.Proofs.Ytacdohlhalnioaa
end

/- Contract: an inode is written (the program's). -/
import Derived.Test.YtacdohlhalnioaaI5
import Derived.Test.YtacdohlhalnioaaG1
set_option linter.unusedVariables false
set_option maxRecDepth 20000
namespace Go.Proofs.Ytacdohlhalnioaa
open Go.RowKit
attribute [local go_sem] Oper.semAt_some

theorem inoBytes_len (x : Ino) : (inoBytes x).length = 24 := by
  have e : List.finRange 12 = [0, 1, 2, 3, 4, 5, 6, 7, 8, 9, 10, 11] := by decide
  rw [inoBytes, bytesTo, e]
  simp only [List.flatMap_cons, List.flatMap_nil, List.length_append, ple_length, List.length_nil]
  rfl
/-- A volume with another inode. -/
def putV (v : Vol) (n : Nat) (x : Ino) : Vol := v.set (3 + (n - 1) / 2) ((bk v (3 + (n - 1) / 2)).take ((n - 1) % 2 * 64) ++ inoBytes x ++ (bk v (3 + (n - 1) / 2)).drop ((n - 1) % 2 * 64 + 24))
theorem clone_ok (A : Option Addr) (c n : Nat) (v : Vol) (w : World) (hr : RS w A v) (hn : v.length = n) (h0 : 0 < n) :
    Calls Try.prog 66 #[.slice A n c] w fun e w' => ∃ g c', e = .returned (.slice (some ⟨g, 0, none⟩) n c') ∧ VS w' g v ∧ w.heap.size ≤ g ∧ Below w.heap.size w w' := by
  have hl := hr.1
  obtain ⟨bA, oA, rfl, hbA, hc⟩ := hr.open_ (by omega)
  refine (Try.slices_Clone_string bA oA n c (v.map mk) w (by simp [hn]) (by omega) (fun j hj => ?_)).mono ?_
  · have hj' : j < v.length := by simpa using hj
    rw [hc j hj']
    simp [bk, hj']
  · rintro e w' ⟨u, rfl, hown, _, hb⟩
    rw [List.take_of_length_le (by simp [hn]), strs_zs _ v rfl] at hown
    obtain ⟨g, cap, rfl, hg, hv⟩ := VB.of_own hown hn h0
    exact ⟨g, cap, rfl, hv, hg, hb⟩

set_option maxHeartbeats 4000000 in
theorem iput_ok (A : Option Addr) (c : Nat) (v : Vol) (n : Nat) (x : Ino) (w : World) (hr : RS w A v) (hv : okV v = true) (h1 : 1 ≤ n) (h2 : n ≤ inosV v) (hx : fitI x) :
    Calls Try.prog 77 #[.slice A v.length c, .int .i64 n, .agg #[.int .i64 ((x.kind : Nat) : Int), .int .i64 ((x.links : Nat) : Int), .int .i64 ((x.owner : Nat) : Int), .int .i64 ((x.size : Nat) : Int), .int .i64 ((x.d0 : Nat) : Int), .int .i64 ((x.d1 : Nat) : Int), .int .i64 ((x.d2 : Nat) : Int), .int .i64 ((x.d3 : Nat) : Int), .int .i64 ((x.d4 : Nat) : Int), .int .i64 ((x.d5 : Nat) : Int), .int .i64 ((x.ind : Nat) : Int), .int .i64 ((x.ext : Nat) : Int)]] w fun e w' => ∃ g c', e = .returned (.tuple #[.slice (some ⟨g, 0, none⟩) v.length c', .int .i64 0]) ∧ VS w' g (putV v n x) ∧ w.heap.size ≤ g ∧ Below w.heap.size w w' := by
  obtain ⟨hl, h128, hs⟩ := slot_facts hv h1 h2
  have HP := Lib.hid (fun w hr => iplace_ok A c v n _ _ w hr hv h1 h2 rfl rfl)
  have ho : (n - 1) % 2 * 64 ≤ 64 := by omega
  rw [putV]
  generalize (n - 1) % 2 * 64 = o at *
  generalize 3 + (n - 1) / 2 = B at *
  have HR := Lib.hid hr
  obtain ⟨bA, oA, rfl, hbA, hc⟩ := hr.open_ (by omega)
  have hcB := hc B hl
  obtain ⟨b, hb⟩ : ∃ b, bk v B = b := ⟨_, rfl⟩
  rw [hb] at h128 hcB ⊢
  have hB' : (B : Int) < (v.length : Nat) := by omega
  have HX := Lib.hid hx
  have hxl := inoBytes_len x
  have HB := Lib.hid hb
  clear hr hc hv hs hx hb
  go_enter Try.func77, Try.ntmps77
  go_wp2_with (first
    | (go_at_call 72; refine (HP.out _ (HR.out.below ((Below.refl _ _).alloc (Nat.le_refl _) _))).mono ?_; rintro e w1 ⟨rfl, hb1⟩; have q1 := blk_keep (blk_new w _) hb1; obtain ⟨c0, c1, c2, c3, c4, c5, c6, c7, c8, c9, c10, c11⟩ := cells12 q1; have B1 := Lib.hid (below_keep ((Below.refl _ w).alloc (Nat.le_refl _) _) (Nat.le_refl _) hb1); have Q1 := Lib.hid q1; clear q1)
    | (go_at_call 108; refine (fits_ok x _ HX.out).mono ?_; rintro e w2 ⟨rfl, hb2⟩)
    | (go_at_call 66; refine (clone_ok _ _ v.length v _ (HR.out.below (below_keep B1.out (Nat.le_refl _) hb2)) rfl (by omega)).mono ?_; rintro e w3 ⟨g, cg, rfl, hg, hgs, hb3⟩; have B3 := Lib.hid (below_keep (below_keep B1.out (Nat.le_refl _) hb2) (Nat.le_refl _) hb3); have q3 := blk_keep (blk_keep Q1.out hb2) hb3; clear c0 c1 c2 c3 c4 c5 c6 c7 c8 c9 c10 c11; obtain ⟨c0, c1, c2, c3, c4, c5, c6, c7, c8, c9, c10, c11⟩ := cells12 q3; clear q3)
    | (go_at_call 109; refine (ibytes_ok x _ HX.out.small).mono ?_; rintro e w4 ⟨rfl, hb4⟩; have B4 := Lib.hid (below_keep B3.out (Nat.le_refl _) hb4); have hg4 := hg.keep hb4))
  have hs1 := B1.out.size
  have hs2 := hb2.size
  have hgl : w.heap.size ≤ g := by omega
  have hgB := hg4.cell B hl
  have hgf := hg4.free B
  have hsB := cell_keep hcB B4.out
  have HG := Lib.hid hg4
  clear hg hg4 hb1 hb2 hb3 hb4 c0 c1 c2 c3 c4 c5 c6 c7 c8 c9 c10 c11
  rw [HB.out] at hgB
  have hio : (o : Int) ≤ (b.length : Nat) := by omega
  have hmo : min o 128 = o := by omega
  have hc1 : ¬ (9223372036854775807 < o + 24) := by omega
  have hc2 : ¬ (9223372036854775807 < o + 24 + (104 - o)) := by omega
  have hc3 : ¬ ((128 : Int) < (o : Int)) := by omega
  have hc4 : ¬ ((128 : Int) < (o : Int) + 24) := by omega
  have hc5 : (o : Int) + 24 ≤ 128 := by omega
  have hc6 : (o : Int) ≤ 128 := by omega
  have hw1 : IntKind.i64.wrap ((o : Int) + 24) = (o : Int) + 24 := by simp [IntKind.wrap, IntKind.bits, IntKind.signed]; omega
  have hw2 : ((o : Int) + 24).toNat = o + 24 := by omega
  have hp1 : (0 : Int) ≤ (o : Int) + 24 := by omega
  have htk : List.take (104 - o) (List.drop (o + 24) b) = List.drop (o + 24) b := List.take_of_length_le (by simp [h128])
  go_wp2
  refine region_P (fun w' => w'.cell? ⟨bA, oA + B, none⟩ = some (.string (mk b))) [21] (by kernel_rfl) ?_ (fun hHeld => ?_)
  · exact hsB
  refine wpP_take (i := 0) (oi := ?oi659001) (v := ?v659001) ?hi659001 (by kernel_rfl) (by kernel_rfl) (by kernel_rfl) (by kernel_rfl) ?hQ659001 ?hy659001 (by assumption) ?rest659001
  case hi659001 => (simp only [List.getElem?_toArray, List.getElem?_cons_succ, List.getElem?_cons_zero]; exact rfl)
  case hQ659001 => exact fun _ _ _ h => h
  case hy659001 => (refine Or.inl ⟨by kernel_rfl, ?_⟩; intro w hSw; (try dsimp only at hSw); go_simp; try (with_reducible rfl))
  try simp only [Act.put, List.setIfInBounds_toArray, List.set_cons_zero, List.set_cons_succ]
  refine wpP_take (i := 1) (oi := ?oi659002) (v := ?v659002) ?hi659002 (by kernel_rfl) (by kernel_rfl) (by kernel_rfl) (by kernel_rfl) ?hQ659002 ?hy659002 (by assumption) ?rest659002
  case hi659002 => (simp only [List.getElem?_toArray, List.getElem?_cons_succ, List.getElem?_cons_zero]; exact rfl)
  case hQ659002 => exact fun _ _ _ h => h
  case hy659002 => (refine Or.inl ⟨by kernel_rfl, ?_⟩; intro w hSw; (try dsimp only at hSw); go_simp; try (with_reducible rfl))
  try simp only [Act.put, List.setIfInBounds_toArray, List.set_cons_zero, List.set_cons_succ]
  refine wpP_take (i := 2) (oi := ?oi659003) (v := ?v659003) ?hi659003 (by kernel_rfl) (by kernel_rfl) (by kernel_rfl) (by kernel_rfl) ?hQ659003 ?hy659003 (by assumption) ?rest659003
  case hi659003 => (simp only [List.getElem?_toArray, List.getElem?_cons_succ, List.getElem?_cons_zero]; exact rfl)
  case hQ659003 => exact fun _ _ _ h => h
  case hy659003 => (refine Or.inl ⟨by kernel_rfl, ?_⟩; intro w hSw; (try dsimp only at hSw); go_simp; try (with_reducible rfl))
  try simp only [Act.put, List.setIfInBounds_toArray, List.set_cons_zero, List.set_cons_succ]
  refine wpP_take (i := 3) (oi := ?oi659004) (v := ?v659004) ?hi659004 (by kernel_rfl) (by kernel_rfl) (by kernel_rfl) (by kernel_rfl) ?hQ659004 ?hy659004 (by assumption) ?rest659004
  case hi659004 => (simp only [List.getElem?_toArray, List.getElem?_cons_succ, List.getElem?_cons_zero]; exact rfl)
  case hQ659004 => exact fun _ _ _ h => h
  case hy659004 => (refine Or.inl ⟨by kernel_rfl, ?_⟩; intro w hSw; (try dsimp only at hSw); go_simp; try (with_reducible rfl))
  try simp only [Act.put, List.setIfInBounds_toArray, List.set_cons_zero, List.set_cons_succ]
  refine wpP_take (i := 4) (oi := ?oi659005) (v := ?v659005) ?hi659005 (by kernel_rfl) (by kernel_rfl) (by kernel_rfl) (by kernel_rfl) ?hQ659005 ?hy659005 (by assumption) ?rest659005
  case hi659005 => (simp only [List.getElem?_toArray, List.getElem?_cons_succ, List.getElem?_cons_zero]; exact rfl)
  case hQ659005 => exact fun _ _ _ h => h
  case hy659005 => (refine Or.inl ⟨by kernel_rfl, ?_⟩; intro w hSw; (try dsimp only at hSw); go_simp; try (with_reducible rfl))
  try simp only [Act.put, List.setIfInBounds_toArray, List.set_cons_zero, List.set_cons_succ]
  refine wpP_take (i := 5) (oi := ?oi659006) (v := ?v659006) ?hi659006 (by kernel_rfl) (by kernel_rfl) (by kernel_rfl) (by kernel_rfl) ?hQ659006 ?hy659006 (by assumption) ?rest659006
  case hi659006 => (simp only [List.getElem?_toArray, List.getElem?_cons_succ, List.getElem?_cons_zero]; exact rfl)
  case hQ659006 => exact fun _ _ _ h => h
  case hy659006 => (refine Or.inl ⟨by kernel_rfl, ?_⟩; intro w hSw; (try dsimp only at hSw); go_simp; try (with_reducible rfl))
  try simp only [Act.put, List.setIfInBounds_toArray, List.set_cons_zero, List.set_cons_succ]
  refine wpP_take (i := 6) (oi := ?oi659007) (v := ?v659007) ?hi659007 (by kernel_rfl) (by kernel_rfl) (by kernel_rfl) (by kernel_rfl) ?hQ659007 ?hy659007 (by assumption) ?rest659007
  case hi659007 => (simp only [List.getElem?_toArray, List.getElem?_cons_succ, List.getElem?_cons_zero]; exact rfl)
  case hQ659007 => exact fun _ _ _ h => h
  case hy659007 => (refine Or.inl ⟨by kernel_rfl, ?_⟩; intro w hSw; (try dsimp only at hSw); go_simp; try (with_reducible rfl))
  try simp only [Act.put, List.setIfInBounds_toArray, List.set_cons_zero, List.set_cons_succ]
  refine wpP_take (i := 7) (oi := ?oi659008) (v := ?v659008) ?hi659008 (by kernel_rfl) (by kernel_rfl) (by kernel_rfl) (by kernel_rfl) ?hQ659008 ?hy659008 (by assumption) ?rest659008
  case hi659008 => (simp only [List.getElem?_toArray, List.getElem?_cons_succ, List.getElem?_cons_zero]; exact rfl)
  case hQ659008 => exact fun _ _ _ h => h
  case hy659008 => (refine Or.inl ⟨by kernel_rfl, ?_⟩; intro w hSw; (try dsimp only at hSw); go_simp; try (with_reducible rfl))
  try simp only [Act.put, List.setIfInBounds_toArray, List.set_cons_zero, List.set_cons_succ]
  refine wpP_take (i := 8) (oi := ?oi659009) (v := ?v659009) ?hi659009 (by kernel_rfl) (by kernel_rfl) (by kernel_rfl) (by kernel_rfl) ?hQ659009 ?hy659009 (by assumption) ?rest659009
  case hi659009 => (simp only [List.getElem?_toArray, List.getElem?_cons_succ, List.getElem?_cons_zero]; exact rfl)
  case hQ659009 => exact fun _ _ _ h => h
  case hy659009 => (refine Or.inl ⟨by kernel_rfl, ?_⟩; intro w hSw; (try dsimp only at hSw); go_simp; try (with_reducible rfl))
  try simp only [Act.put, List.setIfInBounds_toArray, List.set_cons_zero, List.set_cons_succ]
  refine wpP_take (i := 9) (oi := ?oi659010) (v := ?v659010) ?hi659010 (by kernel_rfl) (by kernel_rfl) (by kernel_rfl) (by kernel_rfl) ?hQ659010 ?hy659010 (by assumption) ?rest659010
  case hi659010 => (simp only [List.getElem?_toArray, List.getElem?_cons_succ, List.getElem?_cons_zero]; exact rfl)
  case hQ659010 => exact fun _ _ _ h => h
  case hy659010 => (refine Or.inl ⟨by kernel_rfl, ?_⟩; intro w hSw; (try dsimp only at hSw); go_simp; try (with_reducible rfl))
  try simp only [Act.put, List.setIfInBounds_toArray, List.set_cons_zero, List.set_cons_succ]
  refine wpP_take (i := 10) (oi := ?oi659011) (v := ?v659011) ?hi659011 (by kernel_rfl) (by kernel_rfl) (by kernel_rfl) (by kernel_rfl) ?hQ659011 ?hy659011 (by assumption) ?rest659011
  case hi659011 => (simp only [List.getElem?_toArray, List.getElem?_cons_succ, List.getElem?_cons_zero]; exact rfl)
  case hQ659011 => exact fun _ _ _ h => h
  case hy659011 => (refine Or.inl ⟨by kernel_rfl, ?_⟩; intro w hSw; (try dsimp only at hSw); go_simp; try (with_reducible rfl))
  try simp only [Act.put, List.setIfInBounds_toArray, List.set_cons_zero, List.set_cons_succ]
  refine wpP_take (i := 11) (oi := ?oi659012) (v := ?v659012) ?hi659012 (by kernel_rfl) (by kernel_rfl) (by kernel_rfl) (by kernel_rfl) ?hQ659012 ?hy659012 (by assumption) ?rest659012
  case hi659012 => (simp only [List.getElem?_toArray, List.getElem?_cons_succ, List.getElem?_cons_zero]; exact rfl)
  case hQ659012 => exact fun _ _ _ h => h
  case hy659012 => (refine Or.inl ⟨by kernel_rfl, ?_⟩; intro w hSw; (try dsimp only at hSw); go_simp; try (with_reducible rfl))
  try simp only [Act.put, List.setIfInBounds_toArray, List.set_cons_zero, List.set_cons_succ]
  refine wpP_take (i := 12) (oi := ?oi659013) (v := ?v659013) ?hi659013 (by kernel_rfl) (by kernel_rfl) (by kernel_rfl) (by kernel_rfl) ?hQ659013 ?hy659013 (by assumption) ?rest659013
  case hi659013 => (simp only [List.getElem?_toArray, List.getElem?_cons_succ, List.getElem?_cons_zero]; exact rfl)
  case hQ659013 => exact fun _ _ _ h => h
  case hy659013 => (refine Or.inl ⟨by kernel_rfl, ?_⟩; intro w hSw; (try dsimp only at hSw); go_simp; try (with_reducible rfl))
  try simp only [Act.put, List.setIfInBounds_toArray, List.set_cons_zero, List.set_cons_succ]
  refine wpP_take (i := 13) (oi := ?oi659014) (v := ?v659014) ?hi659014 (by kernel_rfl) (by kernel_rfl) (by kernel_rfl) (by kernel_rfl) ?hQ659014 ?hy659014 (by assumption) ?rest659014
  case hi659014 => (simp only [List.getElem?_toArray, List.getElem?_cons_succ, List.getElem?_cons_zero]; exact rfl)
  case hQ659014 => exact fun _ _ _ h => h
  case hy659014 => (refine Or.inl ⟨by kernel_rfl, ?_⟩; intro w hSw; (try dsimp only at hSw); go_simp; try (with_reducible rfl))
  try simp only [Act.put, List.setIfInBounds_toArray, List.set_cons_zero, List.set_cons_succ]
  refine wpP_take (i := 14) (oi := ?oi659015) (v := ?v659015) ?hi659015 (by kernel_rfl) (by kernel_rfl) (by kernel_rfl) (by kernel_rfl) ?hQ659015 ?hy659015 (by assumption) ?rest659015
  case hi659015 => (simp only [List.getElem?_toArray, List.getElem?_cons_succ, List.getElem?_cons_zero]; exact rfl)
  case hQ659015 => exact fun _ _ _ h => h
  case hy659015 => (refine Or.inl ⟨by kernel_rfl, ?_⟩; intro w hSw; (try dsimp only at hSw); go_simp; try (with_reducible rfl))
  try simp only [Act.put, List.setIfInBounds_toArray, List.set_cons_zero, List.set_cons_succ]
  refine wpP_take (i := 15) (oi := ?oi659016) (v := ?v659016) ?hi659016 (by kernel_rfl) (by kernel_rfl) (by kernel_rfl) (by kernel_rfl) ?hQ659016 ?hy659016 (by assumption) ?rest659016
  case hi659016 => (simp only [List.getElem?_toArray, List.getElem?_cons_succ, List.getElem?_cons_zero]; exact rfl)
  case hQ659016 => exact fun _ _ _ h => h
  case hy659016 => (refine Or.inl ⟨by kernel_rfl, ?_⟩; intro w hSw; (try dsimp only at hSw); go_simp; try (with_reducible rfl))
  try simp only [Act.put, List.setIfInBounds_toArray, List.set_cons_zero, List.set_cons_succ]
  refine wpP_take (i := 16) (oi := ?oi659017) (v := ?v659017) ?hi659017 (by kernel_rfl) (by kernel_rfl) (by kernel_rfl) (by kernel_rfl) ?hQ659017 ?hy659017 (by assumption) ?rest659017
  case hi659017 => (simp only [List.getElem?_toArray, List.getElem?_cons_succ, List.getElem?_cons_zero]; exact rfl)
  case hQ659017 => exact fun _ _ _ h => h
  case hy659017 => (refine Or.inl ⟨by kernel_rfl, ?_⟩; intro w hSw; (try dsimp only at hSw); go_simp; try (with_reducible rfl))
  try simp only [Act.put, List.setIfInBounds_toArray, List.set_cons_zero, List.set_cons_succ]
  refine wpP_take (i := 17) (oi := ?oi659018) (v := ?v659018) ?hi659018 (by kernel_rfl) (by kernel_rfl) (by kernel_rfl) (by kernel_rfl) ?hQ659018 ?hy659018 (by assumption) ?rest659018
  case hi659018 => (simp only [List.getElem?_toArray, List.getElem?_cons_succ, List.getElem?_cons_zero]; exact rfl)
  case hQ659018 => exact fun _ _ _ h => h
  case hy659018 => (refine Or.inl ⟨by kernel_rfl, ?_⟩; intro w hSw; (try dsimp only at hSw); go_simp; try (with_reducible rfl))
  try simp only [Act.put, List.setIfInBounds_toArray, List.set_cons_zero, List.set_cons_succ]
  refine wpP_take (i := 18) (oi := ?oi659019) (v := ?v659019) ?hi659019 (by kernel_rfl) (by kernel_rfl) (by kernel_rfl) (by kernel_rfl) ?hQ659019 ?hy659019 (by assumption) ?rest659019
  case hi659019 => (simp only [List.getElem?_toArray, List.getElem?_cons_succ, List.getElem?_cons_zero]; exact rfl)
  case hQ659019 => exact fun _ _ _ h => h
  case hy659019 => (refine Or.inl ⟨by kernel_rfl, ?_⟩; intro w hSw; (try dsimp only at hSw); go_simp; try (with_reducible rfl))
  try simp only [Act.put, List.setIfInBounds_toArray, List.set_cons_zero, List.set_cons_succ]
  refine wpP_take (i := 19) (oi := ?oi659020) (v := ?v659020) ?hi659020 (by kernel_rfl) (by kernel_rfl) (by kernel_rfl) (by kernel_rfl) ?hQ659020 ?hy659020 (by assumption) ?rest659020
  case hi659020 => (simp only [List.getElem?_toArray, List.getElem?_cons_succ, List.getElem?_cons_zero]; exact rfl)
  case hQ659020 => exact fun _ _ _ h => h
  case hy659020 => (refine Or.inl ⟨by kernel_rfl, ?_⟩; intro w hSw; (try dsimp only at hSw); go_simp; try (with_reducible rfl))
  try simp only [Act.put, List.setIfInBounds_toArray, List.set_cons_zero, List.set_cons_succ]
  refine wpP_take (i := 20) (oi := ?oi659021) (v := ?v659021) ?hi659021 (by kernel_rfl) (by kernel_rfl) (by kernel_rfl) (by kernel_rfl) ?hQ659021 ?hy659021 (by assumption) ?rest659021
  case hi659021 => (simp only [List.getElem?_toArray, List.getElem?_cons_succ, List.getElem?_cons_zero]; exact rfl)
  case hQ659021 => exact fun _ _ _ h => h
  case hy659021 => (refine Or.inl ⟨by kernel_rfl, ?_⟩; intro w hSw; (try dsimp only at hSw); go_simp; try (with_reducible rfl))
  try simp only [Act.put, List.setIfInBounds_toArray, List.set_cons_zero, List.set_cons_succ]
  refine wpP_ready (rs := [21]) (by kernel_rfl) (by simp) ?_
  refine AllP.last (o := ?o659022) ?ho659022 (by kernel_rfl) (fun K hK => ?_) AllP.nil
  case ho659022 => (simp only [List.getElem?_toArray, List.getElem?_cons_succ, List.getElem?_cons_zero]; exact rfl)
  go_simp
  refine hK.out _ _ ?_
  clear hK K
  try simp only [Act.put, List.setIfInBounds_toArray, List.set_cons_zero, List.set_cons_succ]
  refine wpP_done (by kernel_rfl) ?_ _
  have hv5 := HG.out.set B (b.take o ++ (inoBytes x ++ b.drop (o + 24))) hl
  have hB5 : Below w.heap.size w (w4.setCell ⟨g, B, none⟩ (.string (mk (b.take o ++ (inoBytes x ++ b.drop (o + 24)))))) := below_set B4.out hgl
  have HV5 := Lib.hid hv5
  have HB5 := Lib.hid hB5
  clear hv5 hB5
  go_wp2
  go_ret2
  refine ⟨g, cg, rfl, ?_, hgl, HB5.out.drew⟩
  rw [List.append_assoc]
  exact HV5.out

set_option maxHeartbeats 1000000 in
theorem iput_no (A : Option Addr) (c : Nat) (v : Vol) (n : Int) (x : Ino) (w : World) (hr : RS w A v) (h : getE v n ≠ 0) :
    Calls Try.prog 77 #[.slice A v.length c, .int .i64 n, .agg #[.int .i64 ((x.kind : Nat) : Int), .int .i64 ((x.links : Nat) : Int), .int .i64 ((x.owner : Nat) : Int), .int .i64 ((x.size : Nat) : Int), .int .i64 ((x.d0 : Nat) : Int), .int .i64 ((x.d1 : Nat) : Int), .int .i64 ((x.d2 : Nat) : Int), .int .i64 ((x.d3 : Nat) : Int), .int .i64 ((x.d4 : Nat) : Int), .int .i64 ((x.d5 : Nat) : Int), .int .i64 ((x.ind : Nat) : Int), .int .i64 ((x.ext : Nat) : Int)]] w fun e w' => e = .returned (.tuple #[.slice none 0 0, .int .i64 (getE v n)]) ∧ Below w.heap.size w w' := by
  have HP := fun w hr => iplace_no A c v n w hr h
  generalize getE v n = er at *
  have hb : (er == 0) = false := by simpa using h
  have hbn : (er != 0) = true := by simpa using h
  have HPl := Lib.hid HP
  have HRR := Lib.hid hr
  clear HP hr
  go_enter Try.func77, Try.ntmps77
  go_wp2_with (go_at_call 72; refine (HPl.out _ (HRR.out.below ((Below.refl _ _).alloc (Nat.le_refl _) _))).mono ?_; rintro e w1 ⟨rfl, hb1⟩; have hb2 := below_keep ((Below.refl _ w).alloc (Nat.le_refl _) _) (Nat.le_refl _) hb1)
  go_ret2
  exact ⟨rfl, hb2⟩
end Go.Proofs.Ytacdohlhalnioaa

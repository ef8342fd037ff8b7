/- Contract: the block of a place in a file. -/
import Derived.Test.YtacdohlhalnioaaE1
set_option linter.unusedVariables false
set_option maxRecDepth 20000
namespace Go.Proofs.Ytacdohlhalnioaa
open Go.RowKit
attribute [local go_sem] Oper.semAt_some

theorem atN_near {d L : Nat} {v : Vol} {x : Ino} {k : Nat} (hk : k < 6) : numV d L v x k = x.list.getD (4 + k) 0 := by rw [numV, if_pos hk]
theorem i64_or_two (a b : Nat) (ha : a < 256) (hb : b < 256) : bits .or .i64 (a : Int) ((b : Int) * 256) = ((a + 256 * b : Nat) : Int) := by
  rw [show (b : Int) * 256 = ((256 * b : Nat) : Int) from by omega]
  show IntKind.i64.wrap ((BitVec.ofInt 64 (a : Int) ||| BitVec.ofInt 64 ((256 * b : Nat) : Int)).toNat : Int) = _
  rw [BitVec.toNat_or, BitVec.ofInt_natCast, BitVec.ofInt_natCast, BitVec.toNat_ofNat, BitVec.toNat_ofNat, Nat.mod_eq_of_lt (by omega), Nat.mod_eq_of_lt (by omega)]
  have h : a ||| 256 * b = a + 256 * b := by
    have := Nat.two_pow_add_eq_or_of_lt (i := 8) ha b
    rw [Nat.or_comm, Nat.add_comm]
    simpa using this.symm
  rw [h]
  simp [IntKind.wrap, IntKind.bits, IntKind.signed]
  omega
set_option maxHeartbeats 2000000 in
theorem at_ok (F g c L I d n : Nat) (v : Vol) (x : Ino) (k : Nat) (w : World) (hf : FileAt w F g c L I d n v x) (hk : k < 70) (hd : 0 < d) (hs : ∀ j, j < L → (bk v j).length = 128) (hL : L ≤ 223) :
    Calls Try.prog 96 #[.pointer (some ⟨F, 0, none⟩), .int .i64 k] w fun e w' => e = .returned (.int .i64 (holeI (atN d L v x k))) ∧ Below w.heap.size w w' := by
  have HF := Lib.hid hf
  by_cases hk6 : k < 6
  · have hcd : w.cell? ⟨F, 12 + k, none⟩ = some (.int .i64 ((x.list.getD (4 + k) 0 : Nat) : Int)) := by
      rw [cell_at hf.blk]
      rcases (by omega : k = 0 ∨ k = 1 ∨ k = 2 ∨ k = 3 ∨ k = 4 ∨ k = 5) with rfl | rfl | rfl | rfl | rfl | rfl <;> rfl
    have hn := atN_near (d := d) (L := L) (v := v) (x := x) hk6
    have HN := Lib.hid hn
    have HS := Lib.hid hs
    have hki : (k : Int) < 6 := by omega
    clear hf hn hs
    rw [atN, HN.out]
    generalize x.list.getD (4 + k) 0 = b at *
    by_cases hg : goodN d L b = true
    · have hb0 : b ≠ 0 := by simp [goodN] at hg; omega
      rw [if_pos hg, holeI, if_neg hb0]
      go_enter Try.func96, Try.ntmps96
      go_wp2_with (go_at_call 63; refine (good_ok _ _ _ _ _ _ _ _ _ b _ HF.out).mono ?_; rintro e w3 ⟨rfl, rfl⟩)
      go_ret
      exact ⟨rfl, Below.refl _ _⟩
    · have hg' : goodN d L b = false := by simpa using hg
      rw [if_neg hg, holeI, if_pos rfl]
      go_enter Try.func96, Try.ntmps96
      go_wp2_with (go_at_call 63; refine (good_ok _ _ _ _ _ _ _ _ _ b _ HF.out).mono ?_; rintro e w3 ⟨rfl, rfl⟩)
      go_ret
      exact ⟨rfl, Below.refl _ _⟩
  · have c18 : w.cell? ⟨F, 18, none⟩ = some (.int .i64 x.ind) := by rw [cell_at hf.blk]; rfl
    by_cases hgi : goodN d L x.ind = true
    · have hgi2 : d ≤ x.ind ∧ x.ind < L := by simpa [goodN] using hgi
      have hlv := hf.len
      have hsi := hs x.ind (by omega)
      have hci := hf.vol.cell x.ind (by omega)
      have hn : numV d L v x k = w2 (bk v x.ind) (2 * (k - 6)) := by rw [numV, if_neg hk6, if_pos hgi]
      have c0 : w.cell? ⟨F, 0, none⟩ = some (.slice (some ⟨g, 0, none⟩) L c) := by rw [cell_at hf.blk]; rfl
      have hb1 := gb_lt (bk v x.ind) (2 * (k - 6))
      have hb2 := gb_lt (bk v x.ind) (2 * (k - 6) + 1)
      have hor := i64_or_two (gb (bk v x.ind) (2 * (k - 6))) (gb (bk v x.ind) (2 * (k - 6) + 1)) hb1 hb2
      rw [show gb (bk v x.ind) (2 * (k - 6)) + 256 * gb (bk v x.ind) (2 * (k - 6) + 1) = w2 (bk v x.ind) (2 * (k - 6)) from rfl] at hor
      have hw2 := w2_lt (bk v x.ind) (2 * (k - 6))
      have hgood := fun w' (hf' : FileAt w' F g c L I d n v x) b => good_ok F g c L I d n v x b w' hf'
      have HG := Lib.hid hgood
      clear hgood hs hlv
      rw [atN, hn]
      clear hn
      obtain ⟨m, hm⟩ : ∃ m, 2 * (k - 6) = m := ⟨_, rfl⟩
      have hm2 : m + 1 < 128 := by omega
      have hfar := fun w' => far_ok k w' (by omega) hk
      rw [hm] at hb1 hb2 hor hw2 hfar ⊢
      have HFar := Lib.hid hfar
      obtain ⟨b, hb⟩ : ∃ b, bk v x.ind = b := ⟨_, rfl⟩
      rw [hb] at hsi hci hb1 hb2 hor hw2 ⊢
      have hm1 : (m : Int) < 128 := by omega
      have hm1' : (m : Int) + 1 < 128 := by omega
      have hi1 : (x.ind : Int) < (L : Int) := by omega
      have hwm : IntKind.i64.wrap ((m : Int) + 1) = (m : Int) + 1 := by simp [IntKind.wrap, IntKind.bits, IntKind.signed]; omega
      have htm : ((m : Int) + 1).toNat = m + 1 := by omega
      have hpm : (0 : Int) ≤ (m : Int) + 1 := by omega
      have hsh : IntKind.i64.wrap ((gb b (m + 1) : Nat) * 256 : Int) = (gb b (m + 1) : Nat) * 256 := by simp [IntKind.wrap, IntKind.bits, IntKind.signed]; omega
      obtain ⟨b0, hb0⟩ : ∃ b0, gb b m = b0 := ⟨_, rfl⟩
      obtain ⟨b1, hb1'⟩ : ∃ b1, gb b (m + 1) = b1 := ⟨_, rfl⟩
      obtain ⟨nb, hnb⟩ : ∃ nb, w2 b m = nb := ⟨_, rfl⟩
      rw [hnb] at hor hw2 ⊢
      rw [hb0, hb1'] at hor
      rw [hb1'] at hsh
      rw [hb0] at hb1
      rw [hb1'] at hb2
      have HB := Lib.hid hb
      have HM := Lib.hid hm
      have hwb0 : IntKind.i64.wrap (b0 : Int) = (b0 : Int) := by simp [IntKind.wrap, IntKind.bits, IntKind.signed]; omega
      have hwb1 : IntKind.i64.wrap (b1 : Int) = (b1 : Int) := by simp [IntKind.wrap, IntKind.bits, IntKind.signed]; omega
      have HB0 := Lib.hid hb0
      have HB1 := Lib.hid hb1'
      clear hf hfar hb hm hnb
      have hk6' : (6 : Int) ≤ (k : Int) := by omega
      by_cases hg : goodN d L nb = true
      · have hnb0 : nb ≠ 0 := by simp [goodN] at hg; omega
        rw [if_pos hg, holeI, if_neg hnb0]
        go_enter Try.func96, Try.ntmps96
        go_wp2_with (go_at_call 63; refine (HG.out _ HF.out _).mono ?_; rintro e w3 ⟨rfl, rfl⟩)
        refine region_P (fun w' => w'.cell? ⟨F, 0, none⟩ = some (.slice (some ⟨g, 0, none⟩) L c) ∧ w'.cell? ⟨F, 18, none⟩ = some (.int .i64 x.ind) ∧ w'.cell? ⟨g, x.ind, none⟩ = some (.string (mk b))) [] (by kernel_rfl) ?_ (fun hHeld => ?_)
        · exact ⟨c0, c18, hci⟩
        refine wpP_take (i := 0) (oi := ?oi443001) (v := ?v443001) ?hi443001 (by kernel_rfl) (by kernel_rfl) (by kernel_rfl) (by kernel_rfl) ?hQ443001 ?hy443001 (by assumption) ?rest443001
        case hi443001 => (simp only [List.getElem?_toArray, List.getElem?_cons_succ, List.getElem?_cons_zero]; exact rfl)
        case hQ443001 => exact fun _ _ _ h => h
        case hy443001 => (refine Or.inl ⟨by kernel_rfl, ?_⟩; intro w hSw; (try dsimp only at hSw); go_simp; try (with_reducible rfl))
        try simp only [Act.put, List.setIfInBounds_toArray, List.set_cons_zero, List.set_cons_succ]
        refine wpP_take (i := 1) (oi := ?oi443002) (v := ?v443002) ?hi443002 (by kernel_rfl) (by kernel_rfl) (by kernel_rfl) (by kernel_rfl) ?hQ443002 ?hy443002 (by assumption) ?rest443002
        case hi443002 => (simp only [List.getElem?_toArray, List.getElem?_cons_succ, List.getElem?_cons_zero]; exact rfl)
        case hQ443002 => exact fun _ _ _ h => h
        case hy443002 => (refine Or.inl ⟨by kernel_rfl, ?_⟩; intro w hSw; (try dsimp only at hSw); go_simp; try (with_reducible rfl))
        try simp only [Act.put, List.setIfInBounds_toArray, List.set_cons_zero, List.set_cons_succ]
        refine wpP_take (i := 2) (oi := ?oi443003) (v := ?v443003) ?hi443003 (by kernel_rfl) (by kernel_rfl) (by kernel_rfl) (by kernel_rfl) ?hQ443003 ?hy443003 (by assumption) ?rest443003
        case hi443003 => (simp only [List.getElem?_toArray, List.getElem?_cons_succ, List.getElem?_cons_zero]; exact rfl)
        case hQ443003 => exact fun _ _ _ h => h
        case hy443003 => (refine Or.inl ⟨by kernel_rfl, ?_⟩; intro w hSw; (try dsimp only at hSw); go_simp; try (with_reducible rfl))
        try simp only [Act.put, List.setIfInBounds_toArray, List.set_cons_zero, List.set_cons_succ]
        refine wpP_take (i := 3) (oi := ?oi443004) (v := ?v443004) ?hi443004 (by kernel_rfl) (by kernel_rfl) (by kernel_rfl) (by kernel_rfl) ?hQ443004 ?hy443004 (by assumption) ?rest443004
        case hi443004 => (simp only [List.getElem?_toArray, List.getElem?_cons_succ, List.getElem?_cons_zero]; exact rfl)
        case hQ443004 => exact fun _ _ _ h => h
        case hy443004 => (refine Or.inl ⟨by kernel_rfl, ?_⟩; intro w hSw; (try dsimp only at hSw); go_simp; try (with_reducible rfl))
        try simp only [Act.put, List.setIfInBounds_toArray, List.set_cons_zero, List.set_cons_succ]
        refine wpP_take (i := 4) (oi := ?oi443005) (v := ?v443005) ?hi443005 (by kernel_rfl) (by kernel_rfl) (by kernel_rfl) (by kernel_rfl) ?hQ443005 ?hy443005 (by assumption) ?rest443005
        case hi443005 => (simp only [List.getElem?_toArray, List.getElem?_cons_succ, List.getElem?_cons_zero]; exact rfl)
        case hQ443005 => exact fun _ _ _ h => h
        case hy443005 => (refine Or.inl ⟨by kernel_rfl, ?_⟩; intro w hSw; (try dsimp only at hSw); go_simp; try (with_reducible rfl))
        try simp only [Act.put, List.setIfInBounds_toArray, List.set_cons_zero, List.set_cons_succ]
        refine wpP_take (i := 5) (oi := ?oi443006) (v := ?v443006) ?hi443006 (by kernel_rfl) (by kernel_rfl) (by kernel_rfl) (by kernel_rfl) ?hQ443006 ?hy443006 (by assumption) ?rest443006
        case hi443006 => (simp only [List.getElem?_toArray, List.getElem?_cons_succ, List.getElem?_cons_zero]; exact rfl)
        case hQ443006 => exact fun _ _ _ h => h
        case hy443006 => (refine Or.inl ⟨by kernel_rfl, ?_⟩; intro w hSw; (try dsimp only at hSw); go_simp; try (with_reducible rfl))
        try simp only [Act.put, List.setIfInBounds_toArray, List.set_cons_zero, List.set_cons_succ]
        refine wpP_take (i := 6) (oi := ?oi443007) (v := ?v443007) ?hi443007 (by kernel_rfl) (by kernel_rfl) (by kernel_rfl) (by kernel_rfl) ?hQ443007 ?hy443007 (by assumption) ?rest443007
        case hi443007 => (simp only [List.getElem?_toArray, List.getElem?_cons_succ, List.getElem?_cons_zero]; exact rfl)
        case hQ443007 => exact fun _ _ _ h => h
        case hy443007 => (refine Or.inl ⟨by kernel_rfl, ?_⟩; intro w hSw; (try dsimp only at hSw); go_simp; try (with_reducible rfl))
        try simp only [Act.put, List.setIfInBounds_toArray, List.set_cons_zero, List.set_cons_succ]
        refine wpP_take (i := 7) (oi := ?oi443008) (v := ?v443008) ?hi443008 (by kernel_rfl) (by kernel_rfl) (by kernel_rfl) (by kernel_rfl) ?hQ443008 ?hy443008 (by assumption) ?rest443008
        case hi443008 => (simp only [List.getElem?_toArray, List.getElem?_cons_succ, List.getElem?_cons_zero]; exact rfl)
        case hQ443008 => exact fun _ _ _ h => h
        case hy443008 => (refine Or.inl ⟨by kernel_rfl, ?_⟩; intro w hSw; (try dsimp only at hSw); go_simp; try (with_reducible rfl))
        try simp only [Act.put, List.setIfInBounds_toArray, List.set_cons_zero, List.set_cons_succ]
        refine wpP_take (i := 8) (oi := ?oi443009) (v := ?v443009) ?hi443009 (by kernel_rfl) (by kernel_rfl) (by kernel_rfl) (by kernel_rfl) ?hQ443009 ?hy443009 (by assumption) ?rest443009
        case hi443009 => (simp only [List.getElem?_toArray, List.getElem?_cons_succ, List.getElem?_cons_zero]; exact rfl)
        case hQ443009 => exact fun _ _ _ h => h
        case hy443009 => (refine Or.inl ⟨by kernel_rfl, ?_⟩; intro w hSw; (try dsimp only at hSw); go_simp; try (with_reducible rfl))
        try simp only [Act.put, List.setIfInBounds_toArray, List.set_cons_zero, List.set_cons_succ]
        refine wpP_take (i := 9) (oi := ?oi443010) (v := ?v443010) ?hi443010 (by kernel_rfl) (by kernel_rfl) (by kernel_rfl) (by kernel_rfl) ?hQ443010 ?hy443010 (by assumption) ?rest443010
        case hi443010 => (simp only [List.getElem?_toArray, List.getElem?_cons_succ, List.getElem?_cons_zero]; exact rfl)
        case hQ443010 => exact fun _ _ _ h => h
        case hy443010 => (refine Or.inl ⟨by kernel_rfl, ?_⟩; intro w hSw; (try dsimp only at hSw); go_simp; try (with_reducible rfl))
        try simp only [Act.put, List.setIfInBounds_toArray, List.set_cons_zero, List.set_cons_succ]
        refine wpP_take (i := 10) (oi := ?oi443011) (v := ?v443011) ?hi443011 (by kernel_rfl) (by kernel_rfl) (by kernel_rfl) (by kernel_rfl) ?hQ443011 ?hy443011 (by assumption) ?rest443011
        case hi443011 => (simp only [List.getElem?_toArray, List.getElem?_cons_succ, List.getElem?_cons_zero]; exact rfl)
        case hQ443011 => exact fun _ _ _ h => h
        case hy443011 => (refine Or.inl ⟨by kernel_rfl, ?_⟩; intro w hSw; (try dsimp only at hSw); go_simp; try (with_reducible rfl))
        try simp only [Act.put, List.setIfInBounds_toArray, List.set_cons_zero, List.set_cons_succ]
        refine wpP_take (i := 11) (oi := ?oi443012) (v := ?v443012) ?hi443012 (by kernel_rfl) (by kernel_rfl) (by kernel_rfl) (by kernel_rfl) ?hQ443012 ?hy443012 (by assumption) ?rest443012
        case hi443012 => (simp only [List.getElem?_toArray, List.getElem?_cons_succ, List.getElem?_cons_zero]; exact rfl)
        case hQ443012 => exact fun _ _ _ h => h
        case hy443012 => (refine Or.inl ⟨by kernel_rfl, ?_⟩; intro w hSw; (try dsimp only at hSw); go_simp; try (with_reducible rfl))
        try simp only [Act.put, List.setIfInBounds_toArray, List.set_cons_zero, List.set_cons_succ]
        refine wpP_done (by kernel_rfl) ?_ _
        go_wp2
        refine region_P (fun _ => True) [] (by kernel_rfl) ?_ (fun hHeld => ?_)
        · exact trivial
        refine wpP_take (i := 0) (oi := ?oi443013) (v := ?v443013) ?hi443013 (by kernel_rfl) (by kernel_rfl) (by kernel_rfl) (by kernel_rfl) ?hQ443013 ?hy443013 (by assumption) ?rest443013
        case hi443013 => (simp only [List.getElem?_toArray, List.getElem?_cons_succ, List.getElem?_cons_zero]; exact rfl)
        case hQ443013 => exact fun _ _ _ h => h
        case hy443013 => (refine Or.inl ⟨by kernel_rfl, ?_⟩; intro w hSw; (try dsimp only at hSw); go_simp; try (with_reducible rfl))
        try simp only [Act.put, List.setIfInBounds_toArray, List.set_cons_zero, List.set_cons_succ]
        refine wpP_take (i := 1) (oi := ?oi443014) (v := ?v443014) ?hi443014 (by kernel_rfl) (by kernel_rfl) (by kernel_rfl) (by kernel_rfl) ?hQ443014 ?hy443014 (by assumption) ?rest443014
        case hi443014 => (simp only [List.getElem?_toArray, List.getElem?_cons_succ, List.getElem?_cons_zero]; exact rfl)
        case hQ443014 => exact fun _ _ _ h => h
        case hy443014 => (refine Or.inl ⟨by kernel_rfl, ?_⟩; intro w hSw; (try dsimp only at hSw); go_simp; try (with_reducible rfl))
        try simp only [Act.put, List.setIfInBounds_toArray, List.set_cons_zero, List.set_cons_succ]
        refine wpP_take (i := 5) (oi := ?oi443015) (v := ?v443015) ?hi443015 (by kernel_rfl) (by kernel_rfl) (by kernel_rfl) (by kernel_rfl) ?hQ443015 ?hy443015 (by assumption) ?rest443015
        case hi443015 => (simp only [List.getElem?_toArray, List.getElem?_cons_succ, List.getElem?_cons_zero]; exact rfl)
        case hQ443015 => exact fun _ _ _ h => h
        case hy443015 => (refine Or.inl ⟨by kernel_rfl, ?_⟩; intro w hSw; (try dsimp only at hSw); go_simp; try (with_reducible rfl))
        try simp only [Act.put, List.setIfInBounds_toArray, List.set_cons_zero, List.set_cons_succ]
        refine wpP_take (i := 6) (oi := ?oi443016) (v := ?v443016) ?hi443016 (by kernel_rfl) (by kernel_rfl) (by kernel_rfl) (by kernel_rfl) ?hQ443016 ?hy443016 (by assumption) ?rest443016
        case hi443016 => (simp only [List.getElem?_toArray, List.getElem?_cons_succ, List.getElem?_cons_zero]; exact rfl)
        case hQ443016 => exact fun _ _ _ h => h
        case hy443016 => (refine Or.inl ⟨by kernel_rfl, ?_⟩; intro w hSw; (try dsimp only at hSw); go_simp; try (with_reducible rfl))
        try simp only [Act.put, List.setIfInBounds_toArray, List.set_cons_zero, List.set_cons_succ]
        refine wpP_ready (rs := [2]) (by kernel_rfl) (by simp) ?_
        refine AllP.cons (o := ?o443017) ?ho443017 (fun K hK => ?_) AllP.nil
        case ho443017 => (simp only [List.getElem?_toArray, List.getElem?_cons_succ, List.getElem?_cons_zero]; exact rfl)
        go_simp
        go_at_call 121
        refine (HFar.out _).mono ?_
        rintro e w3 ⟨rfl, rfl⟩
        refine hK.out _ _ ?_ (fun hHeld => ?_)
        · exact trivial
        clear hK K
        try simp only [Act.put, List.setIfInBounds_toArray, List.set_cons_zero, List.set_cons_succ]
        refine wpP_take (i := 3) (oi := ?oi443018) (v := ?v443018) ?hi443018 (by kernel_rfl) (by kernel_rfl) (by kernel_rfl) (by kernel_rfl) ?hQ443018 ?hy443018 (by assumption) ?rest443018
        case hi443018 => (simp only [List.getElem?_toArray, List.getElem?_cons_succ, List.getElem?_cons_zero]; exact rfl)
        case hQ443018 => exact fun _ _ _ h => h
        case hy443018 => (refine Or.inl ⟨by kernel_rfl, ?_⟩; intro w hSw; (try dsimp only at hSw); go_simp; try (with_reducible rfl))
        try simp only [Act.put, List.setIfInBounds_toArray, List.set_cons_zero, List.set_cons_succ]
        refine wpP_take (i := 4) (oi := ?oi443019) (v := ?v443019) ?hi443019 (by kernel_rfl) (by kernel_rfl) (by kernel_rfl) (by kernel_rfl) ?hQ443019 ?hy443019 (by assumption) ?rest443019
        case hi443019 => (simp only [List.getElem?_toArray, List.getElem?_cons_succ, List.getElem?_cons_zero]; exact rfl)
        case hQ443019 => exact fun _ _ _ h => h
        case hy443019 => (refine Or.inl ⟨by kernel_rfl, ?_⟩; intro w hSw; (try dsimp only at hSw); go_simp; try (with_reducible rfl))
        try simp only [Act.put, List.setIfInBounds_toArray, List.set_cons_zero, List.set_cons_succ]
        refine wpP_ready (rs := [7]) (by kernel_rfl) (by simp) ?_
        refine AllP.cons (o := ?o443020) ?ho443020 (fun K hK => ?_) AllP.nil
        case ho443020 => (simp only [List.getElem?_toArray, List.getElem?_cons_succ, List.getElem?_cons_zero]; exact rfl)
        go_simp
        go_at_call 121
        refine (HFar.out _).mono ?_
        rintro e w3 ⟨rfl, rfl⟩
        refine hK.out _ _ ?_ (fun hHeld => ?_)
        · exact trivial
        clear hK K
        try simp only [Act.put, List.setIfInBounds_toArray, List.set_cons_zero, List.set_cons_succ]
        refine wpP_take (i := 8) (oi := ?oi443021) (v := ?v443021) ?hi443021 (by kernel_rfl) (by kernel_rfl) (by kernel_rfl) (by kernel_rfl) ?hQ443021 ?hy443021 (by assumption) ?rest443021
        case hi443021 => (simp only [List.getElem?_toArray, List.getElem?_cons_succ, List.getElem?_cons_zero]; exact rfl)
        case hQ443021 => exact fun _ _ _ h => h
        case hy443021 => (refine Or.inl ⟨by kernel_rfl, ?_⟩; intro w hSw; (try dsimp only at hSw); go_simp; try (with_reducible rfl))
        try simp only [Act.put, List.setIfInBounds_toArray, List.set_cons_zero, List.set_cons_succ]
        refine wpP_take (i := 9) (oi := ?oi443022) (v := ?v443022) ?hi443022 (by kernel_rfl) (by kernel_rfl) (by kernel_rfl) (by kernel_rfl) ?hQ443022 ?hy443022 (by assumption) ?rest443022
        case hi443022 => (simp only [List.getElem?_toArray, List.getElem?_cons_succ, List.getElem?_cons_zero]; exact rfl)
        case hQ443022 => exact fun _ _ _ h => h
        case hy443022 => (refine Or.inl ⟨by kernel_rfl, ?_⟩; intro w hSw; (try dsimp only at hSw); go_simp; try (with_reducible rfl))
        try simp only [Act.put, List.setIfInBounds_toArray, List.set_cons_zero, List.set_cons_succ]
        refine wpP_take (i := 10) (oi := ?oi443023) (v := ?v443023) ?hi443023 (by kernel_rfl) (by kernel_rfl) (by kernel_rfl) (by kernel_rfl) ?hQ443023 ?hy443023 (by assumption) ?rest443023
        case hi443023 => (simp only [List.getElem?_toArray, List.getElem?_cons_succ, List.getElem?_cons_zero]; exact rfl)
        case hQ443023 => exact fun _ _ _ h => h
        case hy443023 => (refine Or.inl ⟨by kernel_rfl, ?_⟩; intro w hSw; (try dsimp only at hSw); go_simp; try (with_reducible rfl))
        try simp only [Act.put, List.setIfInBounds_toArray, List.set_cons_zero, List.set_cons_succ]
        refine wpP_take (i := 11) (oi := ?oi443024) (v := ?v443024) ?hi443024 (by kernel_rfl) (by kernel_rfl) (by kernel_rfl) (by kernel_rfl) ?hQ443024 ?hy443024 (by assumption) ?rest443024
        case hi443024 => (simp only [List.getElem?_toArray, List.getElem?_cons_succ, List.getElem?_cons_zero]; exact rfl)
        case hQ443024 => exact fun _ _ _ h => h
        case hy443024 => (refine Or.inl ⟨by kernel_rfl, ?_⟩; intro w hSw; (try dsimp only at hSw); go_simp; try (with_reducible rfl))
        try simp only [Act.put, List.setIfInBounds_toArray, List.set_cons_zero, List.set_cons_succ]
        refine wpP_take (i := 12) (oi := ?oi443025) (v := ?v443025) ?hi443025 (by kernel_rfl) (by kernel_rfl) (by kernel_rfl) (by kernel_rfl) ?hQ443025 ?hy443025 (by assumption) ?rest443025
        case hi443025 => (simp only [List.getElem?_toArray, List.getElem?_cons_succ, List.getElem?_cons_zero]; exact rfl)
        case hQ443025 => exact fun _ _ _ h => h
        case hy443025 => (refine Or.inl ⟨by kernel_rfl, ?_⟩; intro w hSw; (try dsimp only at hSw); go_simp; try (with_reducible rfl))
        try simp only [Act.put, List.setIfInBounds_toArray, List.set_cons_zero, List.set_cons_succ]
        refine wpP_take (i := 13) (oi := ?oi443026) (v := ?v443026) ?hi443026 (by kernel_rfl) (by kernel_rfl) (by kernel_rfl) (by kernel_rfl) ?hQ443026 ?hy443026 (by assumption) ?rest443026
        case hi443026 => (simp only [List.getElem?_toArray, List.getElem?_cons_succ, List.getElem?_cons_zero]; exact rfl)
        case hQ443026 => exact fun _ _ _ h => h
        case hy443026 => (refine Or.inl ⟨by kernel_rfl, ?_⟩; intro w hSw; (try dsimp only at hSw); go_simp; try (with_reducible rfl))
        try simp only [Act.put, List.setIfInBounds_toArray, List.set_cons_zero, List.set_cons_succ]
        refine wpP_done (by kernel_rfl) ?_ _
        go_wp2_with (go_at_call 63; refine (HG.out _ (HF.out.keep ((Below.refl _ w).drew.drew)) nb).mono ?_; rintro e w3 ⟨rfl, rfl⟩)
        go_ret
        exact ⟨rfl, (Below.refl _ _).drew.drew⟩
      · have hg' : goodN d L nb = false := by simpa using hg
        rw [if_neg hg, holeI, if_pos rfl]
        go_enter Try.func96, Try.ntmps96
        go_wp2_with (go_at_call 63; refine (HG.out _ HF.out _).mono ?_; rintro e w3 ⟨rfl, rfl⟩)
        refine region_P (fun w' => w'.cell? ⟨F, 0, none⟩ = some (.slice (some ⟨g, 0, none⟩) L c) ∧ w'.cell? ⟨F, 18, none⟩ = some (.int .i64 x.ind) ∧ w'.cell? ⟨g, x.ind, none⟩ = some (.string (mk b))) [] (by kernel_rfl) ?_ (fun hHeld => ?_)
        · exact ⟨c0, c18, hci⟩
        refine wpP_take (i := 0) (oi := ?oi443027) (v := ?v443027) ?hi443027 (by kernel_rfl) (by kernel_rfl) (by kernel_rfl) (by kernel_rfl) ?hQ443027 ?hy443027 (by assumption) ?rest443027
        case hi443027 => (simp only [List.getElem?_toArray, List.getElem?_cons_succ, List.getElem?_cons_zero]; exact rfl)
        case hQ443027 => exact fun _ _ _ h => h
        case hy443027 => (refine Or.inl ⟨by kernel_rfl, ?_⟩; intro w hSw; (try dsimp only at hSw); go_simp; try (with_reducible rfl))
        try simp only [Act.put, List.setIfInBounds_toArray, List.set_cons_zero, List.set_cons_succ]
        refine wpP_take (i := 1) (oi := ?oi443028) (v := ?v443028) ?hi443028 (by kernel_rfl) (by kernel_rfl) (by kernel_rfl) (by kernel_rfl) ?hQ443028 ?hy443028 (by assumption) ?rest443028
        case hi443028 => (simp only [List.getElem?_toArray, List.getElem?_cons_succ, List.getElem?_cons_zero]; exact rfl)
        case hQ443028 => exact fun _ _ _ h => h
        case hy443028 => (refine Or.inl ⟨by kernel_rfl, ?_⟩; intro w hSw; (try dsimp only at hSw); go_simp; try (with_reducible rfl))
        try simp only [Act.put, List.setIfInBounds_toArray, List.set_cons_zero, List.set_cons_succ]
        refine wpP_take (i := 2) (oi := ?oi443029) (v := ?v443029) ?hi443029 (by kernel_rfl) (by kernel_rfl) (by kernel_rfl) (by kernel_rfl) ?hQ443029 ?hy443029 (by assumption) ?rest443029
        case hi443029 => (simp only [List.getElem?_toArray, List.getElem?_cons_succ, List.getElem?_cons_zero]; exact rfl)
        case hQ443029 => exact fun _ _ _ h => h
        case hy443029 => (refine Or.inl ⟨by kernel_rfl, ?_⟩; intro w hSw; (try dsimp only at hSw); go_simp; try (with_reducible rfl))
        try simp only [Act.put, List.setIfInBounds_toArray, List.set_cons_zero, List.set_cons_succ]
        refine wpP_take (i := 3) (oi := ?oi443030) (v := ?v443030) ?hi443030 (by kernel_rfl) (by kernel_rfl) (by kernel_rfl) (by kernel_rfl) ?hQ443030 ?hy443030 (by assumption) ?rest443030
        case hi443030 => (simp only [List.getElem?_toArray, List.getElem?_cons_succ, List.getElem?_cons_zero]; exact rfl)
        case hQ443030 => exact fun _ _ _ h => h
        case hy443030 => (refine Or.inl ⟨by kernel_rfl, ?_⟩; intro w hSw; (try dsimp only at hSw); go_simp; try (with_reducible rfl))
        try simp only [Act.put, List.setIfInBounds_toArray, List.set_cons_zero, List.set_cons_succ]
        refine wpP_take (i := 4) (oi := ?oi443031) (v := ?v443031) ?hi443031 (by kernel_rfl) (by kernel_rfl) (by kernel_rfl) (by kernel_rfl) ?hQ443031 ?hy443031 (by assumption) ?rest443031
        case hi443031 => (simp only [List.getElem?_toArray, List.getElem?_cons_succ, List.getElem?_cons_zero]; exact rfl)
        case hQ443031 => exact fun _ _ _ h => h
        case hy443031 => (refine Or.inl ⟨by kernel_rfl, ?_⟩; intro w hSw; (try dsimp only at hSw); go_simp; try (with_reducible rfl))
        try simp only [Act.put, List.setIfInBounds_toArray, List.set_cons_zero, List.set_cons_succ]
        refine wpP_take (i := 5) (oi := ?oi443032) (v := ?v443032) ?hi443032 (by kernel_rfl) (by kernel_rfl) (by kernel_rfl) (by kernel_rfl) ?hQ443032 ?hy443032 (by assumption) ?rest443032
        case hi443032 => (simp only [List.getElem?_toArray, List.getElem?_cons_succ, List.getElem?_cons_zero]; exact rfl)
        case hQ443032 => exact fun _ _ _ h => h
        case hy443032 => (refine Or.inl ⟨by kernel_rfl, ?_⟩; intro w hSw; (try dsimp only at hSw); go_simp; try (with_reducible rfl))
        try simp only [Act.put, List.setIfInBounds_toArray, List.set_cons_zero, List.set_cons_succ]
        refine wpP_take (i := 6) (oi := ?oi443033) (v := ?v443033) ?hi443033 (by kernel_rfl) (by kernel_rfl) (by kernel_rfl) (by kernel_rfl) ?hQ443033 ?hy443033 (by assumption) ?rest443033
        case hi443033 => (simp only [List.getElem?_toArray, List.getElem?_cons_succ, List.getElem?_cons_zero]; exact rfl)
        case hQ443033 => exact fun _ _ _ h => h
        case hy443033 => (refine Or.inl ⟨by kernel_rfl, ?_⟩; intro w hSw; (try dsimp only at hSw); go_simp; try (with_reducible rfl))
        try simp only [Act.put, List.setIfInBounds_toArray, List.set_cons_zero, List.set_cons_succ]
        refine wpP_take (i := 7) (oi := ?oi443034) (v := ?v443034) ?hi443034 (by kernel_rfl) (by kernel_rfl) (by kernel_rfl) (by kernel_rfl) ?hQ443034 ?hy443034 (by assumption) ?rest443034
        case hi443034 => (simp only [List.getElem?_toArray, List.getElem?_cons_succ, List.getElem?_cons_zero]; exact rfl)
        case hQ443034 => exact fun _ _ _ h => h
        case hy443034 => (refine Or.inl ⟨by kernel_rfl, ?_⟩; intro w hSw; (try dsimp only at hSw); go_simp; try (with_reducible rfl))
        try simp only [Act.put, List.setIfInBounds_toArray, List.set_cons_zero, List.set_cons_succ]
        refine wpP_take (i := 8) (oi := ?oi443035) (v := ?v443035) ?hi443035 (by kernel_rfl) (by kernel_rfl) (by kernel_rfl) (by kernel_rfl) ?hQ443035 ?hy443035 (by assumption) ?rest443035
        case hi443035 => (simp only [List.getElem?_toArray, List.getElem?_cons_succ, List.getElem?_cons_zero]; exact rfl)
        case hQ443035 => exact fun _ _ _ h => h
        case hy443035 => (refine Or.inl ⟨by kernel_rfl, ?_⟩; intro w hSw; (try dsimp only at hSw); go_simp; try (with_reducible rfl))
        try simp only [Act.put, List.setIfInBounds_toArray, List.set_cons_zero, List.set_cons_succ]
        refine wpP_take (i := 9) (oi := ?oi443036) (v := ?v443036) ?hi443036 (by kernel_rfl) (by kernel_rfl) (by kernel_rfl) (by kernel_rfl) ?hQ443036 ?hy443036 (by assumption) ?rest443036
        case hi443036 => (simp only [List.getElem?_toArray, List.getElem?_cons_succ, List.getElem?_cons_zero]; exact rfl)
        case hQ443036 => exact fun _ _ _ h => h
        case hy443036 => (refine Or.inl ⟨by kernel_rfl, ?_⟩; intro w hSw; (try dsimp only at hSw); go_simp; try (with_reducible rfl))
        try simp only [Act.put, List.setIfInBounds_toArray, List.set_cons_zero, List.set_cons_succ]
        refine wpP_take (i := 10) (oi := ?oi443037) (v := ?v443037) ?hi443037 (by kernel_rfl) (by kernel_rfl) (by kernel_rfl) (by kernel_rfl) ?hQ443037 ?hy443037 (by assumption) ?rest443037
        case hi443037 => (simp only [List.getElem?_toArray, List.getElem?_cons_succ, List.getElem?_cons_zero]; exact rfl)
        case hQ443037 => exact fun _ _ _ h => h
        case hy443037 => (refine Or.inl ⟨by kernel_rfl, ?_⟩; intro w hSw; (try dsimp only at hSw); go_simp; try (with_reducible rfl))
        try simp only [Act.put, List.setIfInBounds_toArray, List.set_cons_zero, List.set_cons_succ]
        refine wpP_take (i := 11) (oi := ?oi443038) (v := ?v443038) ?hi443038 (by kernel_rfl) (by kernel_rfl) (by kernel_rfl) (by kernel_rfl) ?hQ443038 ?hy443038 (by assumption) ?rest443038
        case hi443038 => (simp only [List.getElem?_toArray, List.getElem?_cons_succ, List.getElem?_cons_zero]; exact rfl)
        case hQ443038 => exact fun _ _ _ h => h
        case hy443038 => (refine Or.inl ⟨by kernel_rfl, ?_⟩; intro w hSw; (try dsimp only at hSw); go_simp; try (with_reducible rfl))
        try simp only [Act.put, List.setIfInBounds_toArray, List.set_cons_zero, List.set_cons_succ]
        refine wpP_done (by kernel_rfl) ?_ _
        go_wp2
        refine region_P (fun _ => True) [] (by kernel_rfl) ?_ (fun hHeld => ?_)
        · exact trivial
        refine wpP_take (i := 0) (oi := ?oi443039) (v := ?v443039) ?hi443039 (by kernel_rfl) (by kernel_rfl) (by kernel_rfl) (by kernel_rfl) ?hQ443039 ?hy443039 (by assumption) ?rest443039
        case hi443039 => (simp only [List.getElem?_toArray, List.getElem?_cons_succ, List.getElem?_cons_zero]; exact rfl)
        case hQ443039 => exact fun _ _ _ h => h
        case hy443039 => (refine Or.inl ⟨by kernel_rfl, ?_⟩; intro w hSw; (try dsimp only at hSw); go_simp; try (with_reducible rfl))
        try simp only [Act.put, List.setIfInBounds_toArray, List.set_cons_zero, List.set_cons_succ]
        refine wpP_take (i := 1) (oi := ?oi443040) (v := ?v443040) ?hi443040 (by kernel_rfl) (by kernel_rfl) (by kernel_rfl) (by kernel_rfl) ?hQ443040 ?hy443040 (by assumption) ?rest443040
        case hi443040 => (simp only [List.getElem?_toArray, List.getElem?_cons_succ, List.getElem?_cons_zero]; exact rfl)
        case hQ443040 => exact fun _ _ _ h => h
        case hy443040 => (refine Or.inl ⟨by kernel_rfl, ?_⟩; intro w hSw; (try dsimp only at hSw); go_simp; try (with_reducible rfl))
        try simp only [Act.put, List.setIfInBounds_toArray, List.set_cons_zero, List.set_cons_succ]
        refine wpP_take (i := 5) (oi := ?oi443041) (v := ?v443041) ?hi443041 (by kernel_rfl) (by kernel_rfl) (by kernel_rfl) (by kernel_rfl) ?hQ443041 ?hy443041 (by assumption) ?rest443041
        case hi443041 => (simp only [List.getElem?_toArray, List.getElem?_cons_succ, List.getElem?_cons_zero]; exact rfl)
        case hQ443041 => exact fun _ _ _ h => h
        case hy443041 => (refine Or.inl ⟨by kernel_rfl, ?_⟩; intro w hSw; (try dsimp only at hSw); go_simp; try (with_reducible rfl))
        try simp only [Act.put, List.setIfInBounds_toArray, List.set_cons_zero, List.set_cons_succ]
        refine wpP_take (i := 6) (oi := ?oi443042) (v := ?v443042) ?hi443042 (by kernel_rfl) (by kernel_rfl) (by kernel_rfl) (by kernel_rfl) ?hQ443042 ?hy443042 (by assumption) ?rest443042
        case hi443042 => (simp only [List.getElem?_toArray, List.getElem?_cons_succ, List.getElem?_cons_zero]; exact rfl)
        case hQ443042 => exact fun _ _ _ h => h
        case hy443042 => (refine Or.inl ⟨by kernel_rfl, ?_⟩; intro w hSw; (try dsimp only at hSw); go_simp; try (with_reducible rfl))
        try simp only [Act.put, List.setIfInBounds_toArray, List.set_cons_zero, List.set_cons_succ]
        refine wpP_ready (rs := [2]) (by kernel_rfl) (by simp) ?_
        refine AllP.cons (o := ?o443043) ?ho443043 (fun K hK => ?_) AllP.nil
        case ho443043 => (simp only [List.getElem?_toArray, List.getElem?_cons_succ, List.getElem?_cons_zero]; exact rfl)
        go_simp
        go_at_call 121
        refine (HFar.out _).mono ?_
        rintro e w3 ⟨rfl, rfl⟩
        refine hK.out _ _ ?_ (fun hHeld => ?_)
        · exact trivial
        clear hK K
        try simp only [Act.put, List.setIfInBounds_toArray, List.set_cons_zero, List.set_cons_succ]
        refine wpP_take (i := 3) (oi := ?oi443044) (v := ?v443044) ?hi443044 (by kernel_rfl) (by kernel_rfl) (by kernel_rfl) (by kernel_rfl) ?hQ443044 ?hy443044 (by assumption) ?rest443044
        case hi443044 => (simp only [List.getElem?_toArray, List.getElem?_cons_succ, List.getElem?_cons_zero]; exact rfl)
        case hQ443044 => exact fun _ _ _ h => h
        case hy443044 => (refine Or.inl ⟨by kernel_rfl, ?_⟩; intro w hSw; (try dsimp only at hSw); go_simp; try (with_reducible rfl))
        try simp only [Act.put, List.setIfInBounds_toArray, List.set_cons_zero, List.set_cons_succ]
        refine wpP_take (i := 4) (oi := ?oi443045) (v := ?v443045) ?hi443045 (by kernel_rfl) (by kernel_rfl) (by kernel_rfl) (by kernel_rfl) ?hQ443045 ?hy443045 (by assumption) ?rest443045
        case hi443045 => (simp only [List.getElem?_toArray, List.getElem?_cons_succ, List.getElem?_cons_zero]; exact rfl)
        case hQ443045 => exact fun _ _ _ h => h
        case hy443045 => (refine Or.inl ⟨by kernel_rfl, ?_⟩; intro w hSw; (try dsimp only at hSw); go_simp; try (with_reducible rfl))
        try simp only [Act.put, List.setIfInBounds_toArray, List.set_cons_zero, List.set_cons_succ]
        refine wpP_ready (rs := [7]) (by kernel_rfl) (by simp) ?_
        refine AllP.cons (o := ?o443046) ?ho443046 (fun K hK => ?_) AllP.nil
        case ho443046 => (simp only [List.getElem?_toArray, List.getElem?_cons_succ, List.getElem?_cons_zero]; exact rfl)
        go_simp
        go_at_call 121
        refine (HFar.out _).mono ?_
        rintro e w3 ⟨rfl, rfl⟩
        refine hK.out _ _ ?_ (fun hHeld => ?_)
        · exact trivial
        clear hK K
        try simp only [Act.put, List.setIfInBounds_toArray, List.set_cons_zero, List.set_cons_succ]
        refine wpP_take (i := 8) (oi := ?oi443047) (v := ?v443047) ?hi443047 (by kernel_rfl) (by kernel_rfl) (by kernel_rfl) (by kernel_rfl) ?hQ443047 ?hy443047 (by assumption) ?rest443047
        case hi443047 => (simp only [List.getElem?_toArray, List.getElem?_cons_succ, List.getElem?_cons_zero]; exact rfl)
        case hQ443047 => exact fun _ _ _ h => h
        case hy443047 => (refine Or.inl ⟨by kernel_rfl, ?_⟩; intro w hSw; (try dsimp only at hSw); go_simp; try (with_reducible rfl))
        try simp only [Act.put, List.setIfInBounds_toArray, List.set_cons_zero, List.set_cons_succ]
        refine wpP_take (i := 9) (oi := ?oi443048) (v := ?v443048) ?hi443048 (by kernel_rfl) (by kernel_rfl) (by kernel_rfl) (by kernel_rfl) ?hQ443048 ?hy443048 (by assumption) ?rest443048
        case hi443048 => (simp only [List.getElem?_toArray, List.getElem?_cons_succ, List.getElem?_cons_zero]; exact rfl)
        case hQ443048 => exact fun _ _ _ h => h
        case hy443048 => (refine Or.inl ⟨by kernel_rfl, ?_⟩; intro w hSw; (try dsimp only at hSw); go_simp; try (with_reducible rfl))
        try simp only [Act.put, List.setIfInBounds_toArray, List.set_cons_zero, List.set_cons_succ]
        refine wpP_take (i := 10) (oi := ?oi443049) (v := ?v443049) ?hi443049 (by kernel_rfl) (by kernel_rfl) (by kernel_rfl) (by kernel_rfl) ?hQ443049 ?hy443049 (by assumption) ?rest443049
        case hi443049 => (simp only [List.getElem?_toArray, List.getElem?_cons_succ, List.getElem?_cons_zero]; exact rfl)
        case hQ443049 => exact fun _ _ _ h => h
        case hy443049 => (refine Or.inl ⟨by kernel_rfl, ?_⟩; intro w hSw; (try dsimp only at hSw); go_simp; try (with_reducible rfl))
        try simp only [Act.put, List.setIfInBounds_toArray, List.set_cons_zero, List.set_cons_succ]
        refine wpP_take (i := 11) (oi := ?oi443050) (v := ?v443050) ?hi443050 (by kernel_rfl) (by kernel_rfl) (by kernel_rfl) (by kernel_rfl) ?hQ443050 ?hy443050 (by assumption) ?rest443050
        case hi443050 => (simp only [List.getElem?_toArray, List.getElem?_cons_succ, List.getElem?_cons_zero]; exact rfl)
        case hQ443050 => exact fun _ _ _ h => h
        case hy443050 => (refine Or.inl ⟨by kernel_rfl, ?_⟩; intro w hSw; (try dsimp only at hSw); go_simp; try (with_reducible rfl))
        try simp only [Act.put, List.setIfInBounds_toArray, List.set_cons_zero, List.set_cons_succ]
        refine wpP_take (i := 12) (oi := ?oi443051) (v := ?v443051) ?hi443051 (by kernel_rfl) (by kernel_rfl) (by kernel_rfl) (by kernel_rfl) ?hQ443051 ?hy443051 (by assumption) ?rest443051
        case hi443051 => (simp only [List.getElem?_toArray, List.getElem?_cons_succ, List.getElem?_cons_zero]; exact rfl)
        case hQ443051 => exact fun _ _ _ h => h
        case hy443051 => (refine Or.inl ⟨by kernel_rfl, ?_⟩; intro w hSw; (try dsimp only at hSw); go_simp; try (with_reducible rfl))
        try simp only [Act.put, List.setIfInBounds_toArray, List.set_cons_zero, List.set_cons_succ]
        refine wpP_take (i := 13) (oi := ?oi443052) (v := ?v443052) ?hi443052 (by kernel_rfl) (by kernel_rfl) (by kernel_rfl) (by kernel_rfl) ?hQ443052 ?hy443052 (by assumption) ?rest443052
        case hi443052 => (simp only [List.getElem?_toArray, List.getElem?_cons_succ, List.getElem?_cons_zero]; exact rfl)
        case hQ443052 => exact fun _ _ _ h => h
        case hy443052 => (refine Or.inl ⟨by kernel_rfl, ?_⟩; intro w hSw; (try dsimp only at hSw); go_simp; try (with_reducible rfl))
        try simp only [Act.put, List.setIfInBounds_toArray, List.set_cons_zero, List.set_cons_succ]
        refine wpP_done (by kernel_rfl) ?_ _
        go_wp2_with (go_at_call 63; refine (HG.out _ (HF.out.keep ((Below.refl _ w).drew.drew)) nb).mono ?_; rintro e w3 ⟨rfl, rfl⟩)
        go_ret
        exact ⟨rfl, (Below.refl _ _).drew.drew⟩
    · have hgi' : goodN d L x.ind = false := by simpa using hgi
      have hz : atN d L v x k = 0 := by
        have : numV d L v x k = 0 := by rw [numV, if_neg hk6, if_neg hgi]
        rw [atN, this]
        split <;> rfl
      have hg0 : goodN d L 0 = false := by simp [goodN]; omega
      rw [hz, holeI, if_pos rfl]
      clear hs hf hz
      go_enter Try.func96, Try.ntmps96
      go_wp2_with (go_at_call 63; refine (good_ok _ _ _ _ _ _ _ _ _ _ _ HF.out).mono ?_; rintro e w3 ⟨rfl, rfl⟩)
      go_ret
      exact ⟨rfl, Below.refl _ _⟩
end Go.Proofs.Ytacdohlhalnioaa

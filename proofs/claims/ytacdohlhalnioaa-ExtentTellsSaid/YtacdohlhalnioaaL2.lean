/- The law ExtentTells, walked: whatever the volume, the number and the two places, it returns true. -/
import Derived.Test.YtacdohlhalnioaaL1
set_option linter.unusedVariables false
set_option maxRecDepth 20000
namespace Go.Proofs.Ytacdohlhalnioaa
open Go.RowKit
attribute [local go_sem] Oper.semAt_some

def blkI (v : Vol) (n : Int) : List Int := if getE v n = 0 then blocksV v n.toNat else []
def cntI (v : Vol) (n : Int) : Nat := if getE v n = 0 then countV v n.toNat else 0
def rdB (v : Vol) (n off sz : Int) : Blk := if getE v n = 0 ∧ 0 ≤ off ∧ 0 ≤ sz then readV v n.toNat off.toNat sz.toNat else []
def rdE (v : Vol) (n off sz : Int) : Int := if getE v n = 0 then (if 0 ≤ off ∧ 0 ≤ sz then 0 else 1) else getE v n
theorem getE_nat {v : Vol} {n : Int} (h : getE v n = 0) : okV v = true ∧ 1 ≤ n.toNat ∧ n.toNat ≤ inosV v ∧ n = (n.toNat : Int) := by
  obtain ⟨h1, h2, h3⟩ := getE_ok h
  exact ⟨h1, by omega, by omega, by omega⟩
theorem blocks_all (A : Option Addr) (c : Nat) (v : Vol) (n : Int) (w : World) (hr : RS w A v) :
    Calls Try.prog 18 #[.slice A v.length c, .int .i64 n] w fun e w' => ∃ u, e = .returned u ∧ w'.ownsRow w.heap.size 3 1 u (blkI v n).length (ints (blkI v n)) ∧ Below w.heap.size w w' := by
  by_cases h : getE v n = 0
  · obtain ⟨h1, h2, h3, h4⟩ := getE_nat h
    rw [blkI, if_pos h]
    generalize n.toNat = m at *
    subst h4
    exact blocks_ok A c v m w hr h1 h2 h3 (inoV_size _ _)
  · rw [blkI, if_neg h]
    refine (blocks_no A c v n w hr h).mono ?_
    rintro e w' ⟨rfl, hb⟩
    exact ⟨_, rfl, World.ownsRow_nil _ _ _ _, hb⟩
theorem rblocks_all (A : Option Addr) (c : Nat) (v : Vol) (n : Int) (w : World) (hr : RS w A v) :
    Calls Try.prog 19 #[.slice A v.length c, .int .i64 n] w fun e w' => ∃ u, e = .returned u ∧ w'.ownsRow w.heap.size 3 1 u (blkI v n).length (ints (blkI v n)) ∧ Below w.heap.size w w' := by
  by_cases h : getE v n = 0
  · obtain ⟨h1, h2, h3, h4⟩ := getE_nat h
    rw [blkI, if_pos h]
    generalize n.toNat = m at *
    subst h4
    exact rblocks_ok A c v m w hr h1 h2 h3
  · rw [blkI, if_neg h]
    exact rblocks_no A c v n w hr h
theorem count_all (A : Option Addr) (c : Nat) (v : Vol) (n : Int) (w : World) (hr : RS w A v) :
    Calls Try.prog 22 #[.slice A v.length c, .int .i64 n] w fun e w' => e = .returned (.int .i64 (cntI v n)) ∧ Below w.heap.size w w' := by
  by_cases h : getE v n = 0
  · obtain ⟨h1, h2, h3, h4⟩ := getE_nat h
    rw [cntI, if_pos h]
    generalize n.toNat = m at *
    subst h4
    exact count_ok A c v m w hr h1 h2 h3 (inoV_size _ _)
  · rw [cntI, if_neg h]
    exact count_no A c v n w hr h
theorem rcount_all (A : Option Addr) (c : Nat) (v : Vol) (n : Int) (w : World) (hr : RS w A v) :
    Calls Try.prog 23 #[.slice A v.length c, .int .i64 n] w fun e w' => e = .returned (.int .i64 (cntI v n)) ∧ Below w.heap.size w w' := by
  by_cases h : getE v n = 0
  · obtain ⟨h1, h2, h3, h4⟩ := getE_nat h
    rw [cntI, if_pos h]
    generalize n.toNat = m at *
    subst h4
    exact rcount_ok A c v m w hr h1 h2 h3
  · rw [cntI, if_neg h]
    exact rcount_no A c v n w hr h
theorem read_all (A : Option Addr) (c : Nat) (v : Vol) (n off sz : Int) (w : World) (hr : RS w A v) :
    Calls Try.prog 20 #[.slice A v.length c, .int .i64 n, .int .i64 off, .int .i64 sz] w fun e w' => e = .returned (.tuple #[.string (mk (rdB v n off sz)), .int .i64 (rdE v n off sz)]) ∧ Below w.heap.size w w' := by
  by_cases h : getE v n = 0
  · obtain ⟨h1, h2, h3, h4⟩ := getE_nat h
    by_cases h0 : 0 ≤ off ∧ 0 ≤ sz
    · rw [rdB, if_pos ⟨h, h0⟩, rdE, if_pos h, if_pos h0]
      obtain ⟨off, rfl⟩ := Int.eq_ofNat_of_zero_le h0.1
      obtain ⟨sz, rfl⟩ := Int.eq_ofNat_of_zero_le h0.2
      generalize n.toNat = m at *
      subst h4
      exact read_ok A c v m off sz w hr h1 h2 h3 (inoV_size _ _)
    · rw [rdB, if_neg (fun e => h0 e.2), rdE, if_pos h, if_neg h0]
      generalize n.toNat = m at *
      subst h4
      exact read_neg A c v m off sz w hr h1 h2 h3 (by omega)
  · rw [rdB, if_neg (fun e => h e.1), rdE, if_neg h]
    exact read_no A c v n off sz w hr h
theorem rread_all (A : Option Addr) (c : Nat) (v : Vol) (n off sz : Int) (w : World) (hr : RS w A v) (ho : off ≤ 9223372036854775807) (hz : sz ≤ 9223372036854775807) :
    Calls Try.prog 21 #[.slice A v.length c, .int .i64 n, .int .i64 off, .int .i64 sz] w fun e w' => e = .returned (.tuple #[.string (mk (rdB v n off sz)), .int .i64 (rdE v n off sz)]) ∧ Below w.heap.size w w' := by
  by_cases h : getE v n = 0
  · obtain ⟨h1, h2, h3, h4⟩ := getE_nat h
    by_cases h0 : 0 ≤ off ∧ 0 ≤ sz
    · rw [rdB, if_pos ⟨h, h0⟩, rdE, if_pos h, if_pos h0]
      obtain ⟨off, rfl⟩ := Int.eq_ofNat_of_zero_le h0.1
      obtain ⟨sz, rfl⟩ := Int.eq_ofNat_of_zero_le h0.2
      generalize n.toNat = m at *
      subst h4
      exact rread_ok A c v m off sz w hr h1 h2 h3 ho hz
    · rw [rdB, if_neg (fun e => h0 e.2), rdE, if_pos h, if_neg h0]
      generalize n.toNat = m at *
      subst h4
      exact rread_neg A c v m off sz w hr h1 h2 h3 (by omega)
  · rw [rdB, if_neg (fun e => h e.1), rdE, if_neg h]
    exact rread_no A c v n off sz w hr h
set_option maxHeartbeats 8000000 in
theorem tells_ok (A : Option Addr) (c : Nat) (v : Vol) (n p0 p1 : Int) (w : World) (hr : RS w A v) (ho : p0 ≤ 9223372036854775807) (hz : p1 ≤ 9223372036854775807) :
    Calls Try.prog 3 #[.slice A v.length c, .int .i64 n, .agg #[.int .i64 p0, .int .i64 p1]] w fun e w' => e = .returned (.bool true) ∧ Below w.heap.size w w' := by
  have HR := Lib.hid hr
  have hgr := Lib.hid (fun w hr => great_ok A c v w hr)
  have hb1 := Lib.hid (fun w hr => blocks_all A c v n w hr)
  have hb2 := Lib.hid (fun w hr => rblocks_all A c v n w hr)
  have hc1 := Lib.hid (fun w hr => count_all A c v n w hr)
  have hc2 := Lib.hid (fun w hr => rcount_all A c v n w hr)
  have hr1 := Lib.hid (fun w hr => read_all A c v n p0 p1 w hr)
  have hr2 := Lib.hid (fun w hr => rread_all A c v n p0 p1 w hr ho hz)
  have hbA : Below w.heap.size w (w.alloc (.cells #[.int .i64 p0, .int .i64 p1] 23)) := (Below.refl _ _).alloc (Nat.le_refl _) _
  have hq0 := blk_new w (.cells #[.int .i64 p0, .int .i64 p1] 23)
  have HBA := Lib.hid hbA
  have HQ := Lib.hid hq0
  have k0 : (w.alloc (.cells #[.int .i64 p0, .int .i64 p1] 23)).cell? ⟨w.heap.size, 0, none⟩ = some (.int .i64 p0) := by rw [cell_at hq0]; rfl
  have k1 : (w.alloc (.cells #[.int .i64 p0, .int .i64 p1] 23)).cell? ⟨w.heap.size, 1, none⟩ = some (.int .i64 p1) := by rw [cell_at hq0]; rfl
  clear hr hbA hq0
  have hl70 : (blkI v n).length ≤ 70 := by
    unfold blkI
    split
    · rw [blocksV, List.length_map, List.length_range, needS, sizeX]; omega
    · simp
  obtain ⟨l, hl⟩ : ∃ l, blkI v n = l := ⟨_, rfl⟩
  obtain ⟨ct, hct⟩ : ∃ ct, cntI v n = ct := ⟨_, rfl⟩
  obtain ⟨rb, hrb⟩ : ∃ rb, rdB v n p0 p1 = rb := ⟨_, rfl⟩
  obtain ⟨re, hre⟩ : ∃ re, rdE v n p0 p1 = re := ⟨_, rfl⟩
  rw [hl] at hb1 hb2 hl70
  rw [hct] at hc1 hc2
  rw [hrb, hre] at hr1 hr2
  clear hl hct hrb hre
  by_cases hsm : smallV v = true
  · rw [show greatI v = 0 from if_pos hsm] at hgr
    go_enter Try.func3, Try.ntmps3
    go_wp2_with (first
      | (go_at_call 16; refine (hgr.out _ (HR.out.below HBA.out)).mono ?_; rintro e w1 ⟨rfl, rfl⟩)
      | (go_at_call 18; refine (hb1.out _ (HR.out.below HBA.out)).mono ?_; rintro e w2 ⟨u1, rfl, ho1, hbb1⟩; have O1 := Lib.hid ho1; have B1 := Lib.hid (below_keep HBA.out (Nat.le_refl _) hbb1); have Q1 := Lib.hid (blk_keep HQ.out hbb1); obtain ⟨a1, cp1, rfl⟩ := own_slice ho1; clear ho1 hbb1)
      | (go_at_call 19; refine (hb2.out _ (HR.out.below B1.out)).mono ?_; rintro e w3 ⟨u2, rfl, ho2, hbb2⟩; have O2 := Lib.hid ho2; have B2 := Lib.hid (below_keep B1.out (Nat.le_refl _) hbb2); have P1 := Lib.hid (own_below O1.out hbb2); have Q2 := Lib.hid (blk_keep Q1.out hbb2); have k0 : w3.cell? ⟨w.heap.size, 0, none⟩ = some (.int .i64 p0) := (by rw [cell_at Q2.out]; rfl); have k1 : w3.cell? ⟨w.heap.size, 1, none⟩ = some (.int .i64 p1) := (by rw [cell_at Q2.out]; rfl); obtain ⟨a2, cp2, rfl⟩ := own_slice ho2; clear ho2 hbb2)
      | (go_at_call 20; refine (hr1.out _ (HR.out.below B2.out)).mono ?_; rintro e w4 ⟨rfl, hbb3⟩; have B3 := Lib.hid (below_keep B2.out (Nat.le_refl _) hbb3); have Q3 := Lib.hid (blk_keep Q2.out hbb3); have k0 : w4.cell? ⟨w.heap.size, 0, none⟩ = some (.int .i64 p0) := (by rw [cell_at Q3.out]; rfl); have k1 : w4.cell? ⟨w.heap.size, 1, none⟩ = some (.int .i64 p1) := (by rw [cell_at Q3.out]; rfl); have R1 := Lib.hid (own_below P1.out hbb3); have R2 := Lib.hid (own_below O2.out hbb3); clear hbb3)
      | (go_at_call 21; refine (hr2.out _ (HR.out.below B3.out)).mono ?_; rintro e w5 ⟨rfl, hbb4⟩; have B4 := Lib.hid (below_keep B3.out (Nat.le_refl _) hbb4); have S1 := Lib.hid (own_below R1.out hbb4); have S2 := Lib.hid (own_below R2.out hbb4); clear hbb4)
      | (go_at_call 22; refine (hc1.out _ (HR.out.below B4.out)).mono ?_; rintro e w6 ⟨rfl, hbb5⟩; have B5 := Lib.hid (below_keep B4.out (Nat.le_refl _) hbb5); have T1 := Lib.hid (own_below S1.out hbb5); have T2 := Lib.hid (own_below S2.out hbb5); clear hbb5)
      | (go_at_call 23; refine (hc2.out _ (HR.out.below B5.out)).mono ?_; rintro e w7 ⟨rfl, hbb6⟩; have B6 := Lib.hid (below_keep B5.out (Nat.le_refl _) hbb6); have U1 := Lib.hid (own_below T1.out hbb6); have U2 := Lib.hid (own_below T2.out hbb6); clear hbb6))
    have s2 := B1.out.size
    go_loopw [70] (fun iv wr => ∃ k : Nat, k ≤ l.length ∧ iv = .int .i64 k ∧ Hid (wr.ownsRow (w.alloc (.cells #[.int .i64 p0, .int .i64 p1] 23)).heap.size 3 1 (.slice a1 l.length cp1) l.length (ints l)) ∧ Hid (wr.ownsRow w2.heap.size 3 1 (.slice a2 l.length cp2) l.length (ints l)) ∧ Hid (Below w.heap.size w wr)) (fun iv _ => l.length - (intOf iv).toNat)
    case atStart => exact ⟨0, by omega, rfl, U1, U2, B6⟩
    case round =>
      obtain ⟨k, hk, rfl, h1, h2, hB⟩ := hrel
      by_cases hlt : k < l.length
      · have hki : (k : Int) < (l.length : Nat) := by omega
        obtain ⟨g1, cq1, e1, _, hc1'⟩ := own_open h1.out (by omega)
        obtain ⟨g2, cq2, e2, _, hc2'⟩ := own_open h2.out (by omega)
        obtain ⟨y, hy⟩ : ∃ y, l[k]? = some y := ⟨_, List.getElem?_eq_getElem hlt⟩
        have d1 := hc1' k (.int .i64 y) (by simp [ints, hy])
        have d2 := hc2' k (.int .i64 y) (by simp [ints, hy])
        injection e1 with e1a e1b e1c
        injection e2 with e2a e2b e2c
        subst e1a e1c e2a e2c
        have hyy : (y != y) = false := by simp
        clear hc1' hc2' hy
        go_wp2
        go_quiet (fail)
        rename_i nq
        go_wp2
        exact ⟨⟨k + 1, by omega, by go_num, own_below h1.out (below_drewN' _ _), own_below h2.out (below_drewN' _ _), below_keep hB.out (Nat.le_refl _) (below_drewN' _ _)⟩, by simp only [intOf]; omega⟩
      · have hki : ¬ (k : Int) < (l.length : Nat) := by omega
        go_wp2_with (go_at_call 17; refine (fixed_ok _).mono ?_; rintro e w8 ⟨rfl, hb8⟩)
        go_ret
        exact ⟨rfl, below_keep hB.out (Nat.le_refl _) hb8⟩
  · rw [show greatI v = 1 from if_neg hsm] at hgr
    go_enter Try.func3, Try.ntmps3
    go_wp2_with (first
      | (go_at_call 16; refine (hgr.out _ (HR.out.below HBA.out)).mono ?_; rintro e w1 ⟨rfl, rfl⟩)
      | (go_at_call 17; refine (fixed_ok _).mono ?_; rintro e w8 ⟨rfl, hb8⟩))
    go_ret
    exact ⟨rfl, below_keep HBA.out (Nat.le_refl _) hb8⟩
end Go.Proofs.Ytacdohlhalnioaa

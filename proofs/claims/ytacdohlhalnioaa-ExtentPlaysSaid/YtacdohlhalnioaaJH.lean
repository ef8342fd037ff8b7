/- Joined: XL1. -/
import Derived.Test.YtacdohlhalnioaaJ6
import Derived.Test.YtacdohlhalnioaaJ7
import Derived.Test.YtacdohlhalnioaaJ5
/- Contracts of the law's helpers: is a volume great; the chapter's example. -/
section
set_option linter.unusedSimpArgs false
set_option linter.unusedVariables false
set_option maxRecDepth 20000
namespace Go.Proofs.Ytacdohlhalnioaa
open Go.RowKit
attribute [local go_sem] Oper.semAt_some

/-- A volume that is gone through. -/
def smallV (v : Vol) : Bool := decide (v.length ≤ 64) && v.all fun s => decide (s.length ≤ 300)
theorem smallV_iff {v : Vol} : smallV v = true ↔ v.length ≤ 64 ∧ ∀ j, j < v.length → (bk v j).length ≤ 300 := by
  simp only [smallV, Bool.and_eq_true, decide_eq_true_eq, List.all_eq_true]
  constructor
  · rintro ⟨h1, h2⟩
    exact ⟨h1, fun j hj => by rw [← bk_get v j hj]; exact h2 _ (List.getElem_mem hj)⟩
  · rintro ⟨h1, h2⟩
    refine ⟨h1, fun s hs => ?_⟩
    obtain ⟨j, hj, rfl⟩ := List.getElem_of_mem hs
    rw [bk_get v j hj]
    exact h2 j hj
def greatI (v : Vol) : Int := if smallV v = true then 0 else 1
theorem greatI_small {v : Vol} (h : v.length ≤ 64) (h2 : ∀ j, j < v.length → (bk v j).length ≤ 300) : greatI v = 0 := if_pos (smallV_iff.2 ⟨h, h2⟩)
theorem greatI_long {v : Vol} (h : 64 < v.length) : greatI v = 1 := if_neg fun e => by have := (smallV_iff.1 e).1; omega
theorem greatI_one {v : Vol} {j : Nat} (hj : j < v.length) (h : 300 < (bk v j).length) : greatI v = 1 := if_neg fun e => by have := (smallV_iff.1 e).2 j hj; omega
set_option maxHeartbeats 1000000 in
theorem great_ok (A : Option Addr) (c : Nat) (v : Vol) (w : World) (hr : RS w A v) :
    Calls Try.prog 16 #[.slice A v.length c] w fun e w' => e = .returned (.int .i64 (greatI v)) ∧ w = w' := by
  have hl := hr.1
  by_cases h64 : 64 < v.length
  · rw [greatI_long h64]
    have hi : (64 : Int) < (v.length : Nat) := by omega
    clear hr
    go_enter Try.func16, Try.ntmps16
    go_wp2
    go_ret
    exact ⟨rfl, rfl⟩
  · have hi : ¬ (64 : Int) < (v.length : Nat) := by omega
    by_cases h0 : v.length = 0
    · rw [greatI_small (by omega) (fun j hj => by omega)]
      clear hr hi h64
      have hz : v = [] := List.length_eq_zero_iff.1 h0
      subst hz
      go_enter Try.func16, Try.ntmps16
      go_wp2
      go_loop [10] (fun iv => iv = .int .i64 0) (fun iv => 0)
      case atStart => rfl
      case round =>
        subst hrel
        go_wp2
        go_ret
        exact ⟨rfl, rfl⟩
    · obtain ⟨bA, oA, rfl, hbA, hc⟩ := hr.open_ (by omega)
      have HC := Lib.hid hc
      clear hr hc
      go_enter Try.func16, Try.ntmps16
      go_wp2
      go_loop [10] (fun iv => ∃ k : Nat, k ≤ v.length ∧ iv = .int .i64 k ∧ ∀ j, j < k → (bk v j).length ≤ 300) (fun iv => v.length - (intOf iv).toNat)
      case atStart => exact ⟨0, by omega, rfl, fun j hj => by omega⟩
      case round =>
        obtain ⟨k, hk, rfl, hall⟩ := hrel
        have HA := Lib.hid hall
        clear hall
        by_cases hlt : k < v.length
        · have hci := HC.out k hlt
          have hki : (k : Int) < (v.length : Nat) := by omega
          by_cases h3 : 300 < (bk v k).length
          · have h3i : (300 : Int) < ((bk v k).length : Nat) := by omega
            have hg := greatI_one hlt h3
            have HG := Lib.hid hg
            clear hg h3
            generalize bk v k = s at *
            go_wp2
            go_ret
            exact ⟨ret_int HG.out.symm, rfl⟩
          · have h3i : ¬ (300 : Int) < ((bk v k).length : Nat) := by omega
            have hall : ∀ j, j < k + 1 → (bk v j).length ≤ 300 := fun j hj => by
              rcases Nat.lt_or_ge j k with h | h
              · exact HA.out j h
              · have : j = k := by omega
                rw [this]; omega
            have HA2 := Lib.hid hall
            clear hall
            generalize bk v k = s at *
            go_wp2
            exact ⟨⟨k + 1, by omega, by go_num, HA2.out⟩, by simp only [intOf]; omega⟩
        · have hg : greatI v = 0 := greatI_small (by omega) (fun j hj => HA.out j (by omega))
          have HG := Lib.hid hg
          clear hg
          have hki : ¬ (k : Int) < (v.length : Nat) := by omega
          go_wp2
          go_ret
          exact ⟨ret_int HG.out.symm, rfl⟩
theorem own_open {w : World} {base e n : Nat} {u : Value} {xs : List Value} (h : w.ownsRow base e 1 u n xs) (h0 : 0 < n) : ∃ g cap, u = .slice (some ⟨g, 0, none⟩) n cap ∧ base ≤ g ∧ ∀ j y, xs[j]? = some y → w.cell? ⟨g, j, none⟩ = some y := by
  rcases h.2 with ⟨rfl, h1⟩ | ⟨g, cap, cur, rfl, h1, _⟩
  · omega
  · refine ⟨g, cap, rfl, h1, fun j y hy => ?_⟩
    have := h.cells (g := g) rfl j y hy
    by_cases hj : j = 0
    · subst hj; simpa [Addr.add] using this
    · simpa [Addr.add, hj] using this
set_option maxHeartbeats 4000000 in
theorem fixed_ok (w : World) :
    Calls Try.prog 17 #[] w fun e w' => e = .returned (.bool true) ∧ Below w.heap.size w w' := by
  obtain ⟨f1, f2, f3, f4, f5, f6, f7, f8, f9, f10, f11, f12, f13⟩ := fx_facts
  have hfmt := Lib.hid (fun w => format_ok 24 4 w (by decide))
  have hnew := Lib.hid (fun w A c hr => inew_ok A c fx1 1 0 w hr f1 (Nat.le_refl _) (by omega) (by omega) f2 (fun j h1 h2 => by omega))
  have hwr := Lib.hid (fun w A c hr => write_ok A c fx2 1 300 [120] w hr f5 (Nat.le_refl _) (by omega) (by simp) (by simp))
  have hbl := Lib.hid (fun w A c hr => blocks_ok A c fx3 1 w hr f9 (Nat.le_refl _) (by omega) (inoV_size _ _))
  have hct := Lib.hid (fun w A c hr => count_ok A c fx3 1 w hr f9 (Nat.le_refl _) (by omega) (inoV_size _ _))
  rw [f4, show putV fx1 1 (freshI 0) = fx2 from rfl] at hnew
  rw [f7] at hwr
  rw [f11, f12] at hbl
  rw [f11, f13] at hct
  rw [show fmtV 24 4 = fx1 from rfl] at hfmt
  obtain ⟨⟨v', x'⟩, hR⟩ := Option.isSome_iff_exists.1 f8
  have hx3 : fx3 = putV v' 1 (if min x'.size 8960 < 301 then x'.setS 301 else x') := by rw [fx3, hR]
  have hwr2 : Hid (∀ w A c, RS w A fx2 → Calls Try.prog 35 #[.slice A 24 c, .int .i64 1, .int .i64 300, .string (mk [120])] w fun e w' => ∃ g c', e = .returned (.tuple #[.slice (some ⟨g, 0, none⟩) 24 c', .int .i64 0]) ∧ VS w' g fx3 ∧ w.heap.size ≤ g ∧ Below w.heap.size w w') := by
    refine Lib.hid fun w A c hr => (hwr.out w A c hr).mono ?_
    intro e w' h
    rw [show wrV [(120 : UInt8)].length fx2 (inoV fx2 1) 300 [120] = some (v', x') from hR] at h
    simp only [WAns] at h
    rw [show (300 + [(120 : UInt8)].length) = 301 from rfl, ← hx3, f7] at h
    exact h
  clear hwr hx3 hR f1 f2 f3 f5 f6 f8 f9 f10 f12 f13
  have L1 := Lib.hid f4
  have L2 := Lib.hid f7
  have L3 := Lib.hid f11
  clear f4 f7 f11
  generalize fx1 = a1 at *
  generalize fx2 = a2 at *
  generalize fx3 = a3 at *
  go_enter Try.func17, Try.ntmps17
  go_wp2_with (first
    | (go_at_call 48; refine (hfmt.out _).mono ?_; rintro e w1 ⟨g1, rfl, hg1, hs1, hb1⟩)
    | (go_at_call 34; refine (hnew.out _ _ _ (hg1.rs (by rw [L1.out]; omega))).mono ?_; rintro e w2 ⟨g2, c2, rfl, hg2, hs2, hb2⟩)
    | (go_at_call 35; refine (hwr2.out _ _ _ (hg2.rs (by rw [L2.out]; omega))).mono ?_; rintro e w3 ⟨g3, c3, rfl, hg3, hs3, hb3⟩)
    | (go_at_call 18; refine (hbl.out _ _ _ (hg3.rs (by rw [L3.out]; omega))).mono ?_; rintro e w4 ⟨u, rfl, ho4, hb4⟩; obtain ⟨g4, cap4, rfl, hs4, hc4⟩ := own_open ho4 (by simp); have k0 := hc4 0 _ rfl; have k1 := hc4 1 _ rfl; have k2 := hc4 2 _ rfl; clear hc4 ho4)
    | (go_at_call 22; refine (hct.out _ _ _ ((hg3.rs (by rw [L3.out]; omega)).below hb4)).mono ?_; rintro e w5 ⟨rfl, hb5⟩))
  go_ret
  refine ⟨rfl, ?_⟩
  have s1 := hb1.size
  have s2 := hb2.size
  have s3 := hb3.size
  have s4 := hb4.size
  exact below_keep (below_keep (below_keep (below_keep hb1 (Nat.le_refl _) hb2) (by omega) hb3) (by omega) hb4) (by omega) hb5
end Go.Proofs.Ytacdohlhalnioaa
end

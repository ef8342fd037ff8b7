/- Joined: XYM XYN. -/
import Derived.Test.YtacdohlhalnioaaKE
import Derived.Test.YtacdohlhalnioaaKG
import Derived.Maps.Own
import Derived.Maps.OwnOps
import Derived.Maps.Views
/- The pure law of files: all blocks are the room's or the files'. -/
section
set_option linter.unusedVariables false
set_option linter.unusedSimpArgs false
set_option maxRecDepth 20000
namespace Go.Proofs.Ytacdohlhalnioaa
open Go.RowKit

/-- A file with a block of numbers has more than six blocks' bytes. -/
def LI (v : Vol) : Prop := ∀ n, S3 n → refV v (inoV v n) 70 ≠ 0 → 768 < (inoV v n).size
theorem li_chg {v w : Vol} {n : Nat} {y : Ino} (h : LV v) (hi : LI v) (hc : Chg S3 v n w y) (hn : refV w (inoV w n) 70 ≠ 0 → 768 < (inoV w n).size) : LI w := by
  intro m hm h0
  by_cases e : m = n
  · rw [e] at h0 ⊢; exact hn h0
  · rw [hc.ino m (h.sv.rng m hm).1 (h.sv.rng m hm).2 e]
    rw [hc.ref m hm e] at h0
    exact hi m hm h0
theorem li_write {v w : Vol} {n : Nat} {off : Int} {t : Blk} (h : LV v) (hi : LI v) (hn : S3 n) (hw : writeR v n off t = (0, w)) : LI w := by
  obtain ⟨a, _, ha, (⟨_, rfl⟩ | ⟨ht, v', x', h1, rfl⟩)⟩ := writeR_ok hw
  · exact hi
  · have hW := write_vol h.sv hn ha h1
    generalize putV v' n (if min x'.size 8960 < a + t.length then x'.setS (a + t.length) else x') = w at *
    obtain ⟨y, hC⟩ := hW.chg
    have hs := (h.fl n hn).size
    refine li_chg h hi hC (fun h0 => ?_)
    rw [hW.size, Nat.min_eq_left hs]
    rcases hW.ind.1 h0 with h2 | ⟨_, h2⟩
    · have := hi n hn h2
      split <;> omega
    · split <;> omega
theorem li_cut {v : Vol} {n s : Nat} (h : LV v) (hi : LI v) (hn : S3 n) (hs9 : s ≤ 8960) : LI (cutV v n s) := by
  have hW := cut_vol h.sv hn hs9
  obtain ⟨y, hC⟩ := hW.chg
  have hsx := h.sizeX hn
  refine li_chg h hi hC (fun h0 => ?_)
  rw [hW.size]
  rw [hW.ind, hsx] at h0
  split at h0
  · exact absurd rfl h0
  · have := hi n hn h0
    omega
theorem li_step {v : Vol} (h : LV v) (hi : LI v) (d : Deed) : LI (stepV v d) := by
  unfold stepV
  split
  · rename_i h0
    obtain ⟨⟨e, w⟩, hR⟩ : ∃ R, actR v d = R := ⟨_, rfl⟩
    rw [hR] at h0 ⊢
    obtain rfl : e = 0 := h0
    unfold actR at hR
    split at hR
    · obtain ⟨a, _, ha, rfl⟩ := cutR_ok hR
      exact li_cut h hi (pickN_s _) ha
    · exact li_write h hi (pickN_s _) hR
  · exact hi
theorem li_start : LI lv3 := by
  obtain ⟨_, _, _, _, ⟨f1, f2, f3⟩, _⟩ := lv_facts
  intro n hn h0
  obtain ⟨a, b⟩ := hn
  rcases (by omega : n = 1 ∨ n = 2 ∨ n = 3) with rfl | rfl | rfl
  · rw [f1, ref_fresh] at h0; exact absurd rfl h0
  · rw [f2, ref_fresh] at h0; exact absurd rfl h0
  · rw [f3, ref_fresh] at h0; exact absurd rfl h0
theorem li_laid (l : List Deed) : LI (laidV l) := by
  have key : ∀ (l : List Deed) {v : Vol}, LV v → LI v → LI (stepsV v l) := by
    intro l
    induction l with
    | nil => intro v _ hi; exact hi
    | cons d l ih => intro v h hi; exact ih (h.step d) (li_step h hi d)
  exact key l lv_start li_start
/-- A file that is cut to nothing has no blocks. -/
theorem cut0_pure {v : Vol} {n : Nat} (h : LV v) (hi : LI v) (hn : S3 n) : LV (cutV v n 0) ∧ LI (cutV v n 0) ∧ cutR v n 0 = (0, cutV v n 0) ∧ countV (cutV v n 0) n = 0 ∧ ∀ m, S3 m → m ≠ n → countV (cutV v n 0) m = countV v m := by
  obtain ⟨c1, c2, _, _⟩ := cuts_pure h hn (show 0 ≤ 8960 by omega)
  have hW := cut_vol h.sv hn (show 0 ≤ 8960 by omega)
  obtain ⟨y, hC⟩ := hW.chg
  have hsx := h.sizeX hn
  refine ⟨c2, li_cut h hi hn (by omega), c1, ?_, fun m hm hmn => ?_⟩
  · rw [countV_cntR, cntR, List.countP_eq_zero]
    intro κ hκ
    have hκ := List.mem_range.1 hκ
    have e : refV (cutV v n 0) (inoV (cutV v n 0) n) κ = 0 := by
      by_cases h70 : κ < 70
      · rw [hW.refs κ h70, hsx]
        split
        · rfl
        · rename_i hc
          rcases Nat.eq_zero_or_pos (refV v (inoV v n) κ) with h0 | h0
          · exact h0
          · have := (h.fl n hn).tail κ h70 (by omega)
            have e : needS 0 = 0 := rfl
            omega
      · by_cases h7 : κ = 70
        · subst h7
          rw [hW.ind, hsx]
          split
          · rfl
          · rename_i hc
            rcases Nat.eq_zero_or_pos (refV v (inoV v n) 70) with h0 | h0
            · exact h0
            · have := hi n hn (by omega)
              omega
        · obtain rfl : κ = 71 := by omega
          exact c2.ext0 hn
    rw [e]
    simp
  · rw [countV_cntR, countV_cntR]
    exact cntR_congr (hC.ref m hm hmn)
theorem room_sum {v : Vol} (h : LV v) : freeN v + (countV v 1 + countV v 2 + countV v 3) = freeN lv0 := by
  rw [countV_cntR, countV_cntR, countV_cntR]
  exact h.room
/-- Has z been met among the blocks of the first i files, and the first k of the next? -/
def metZ (v : Vol) (i k : Nat) (z : Int) : Prop := ∃ m κ, S3 m ∧ κ < 70 ∧ (m ≤ i ∨ (m = i + 1 ∧ κ < k)) ∧ refV v (inoV v m) κ ≠ 0 ∧ (refV v (inoV v m) κ : Int) = z
theorem met_not {v : Vol} (h : LV v) {i k : Nat} (hn : S3 (i + 1)) (hk : k < 70) (h0 : refV v (inoV v (i + 1)) k ≠ 0) : ¬ metZ v i k (refV v (inoV v (i + 1)) k : Int) := by
  rintro ⟨m, κ, hm, hκ, hc, h1, h2⟩
  have := h.sv.sd.inj m κ (i + 1) k hm hn (by omega) (by omega) h1 (by omega)
  omega
theorem met_step {v : Vol} {i k : Nat} {z : Int} (hz : ¬ metZ v i (k + 1) z) (hn : S3 (i + 1)) (hk : k < 70) : ¬ metZ v i k z ∧ (refV v (inoV v (i + 1)) k ≠ 0 → z ≠ (refV v (inoV v (i + 1)) k : Int)) := by
  refine ⟨fun ⟨m, κ, a, b, c, d, e⟩ => hz ⟨m, κ, a, b, by omega, d, e⟩, fun h0 e => hz ⟨i + 1, k, hn, hk, .inr ⟨rfl, by omega⟩, h0, e.symm⟩⟩
theorem met_next {v : Vol} (h : LV v) {i : Nat} {z : Int} (hi : i < 3) (hz : ¬ metZ v (i + 1) 0 z) : ¬ metZ v i (needS (sizeX (inoV v (i + 1)))) z := by
  rintro ⟨m, κ, a, b, c, d, e⟩
  exact hz ⟨m, κ, a, b, by omega, d, e⟩
end Go.Proofs.Ytacdohlhalnioaa
end

/- The law ExtentRoom, walked. -/
section
set_option linter.unusedVariables false
set_option linter.unusedSimpArgs false
set_option maxRecDepth 20000
namespace Go.Proofs.Ytacdohlhalnioaa
open Go.RowKit Go.Maps
attribute [local go_sem] Oper.semAt_some

theorem kLaw : Keyed Try.prog 3 := int_keyed Try.underlying3
theorem kZero (w : World) : (zeroValue 3).run Try.prog w = .ok (.int .i64 0) w := by kernel_rfl
/-- A map of the blocks that were met: none that wasn't is in it. -/
def MapI (v : Vol) (w : World) (B i k : Nat) : Prop := ∃ (n : Nat) (D : DataW Unit), n ≤ 70 * i + k ∧ w.ownsMap Try.prog 3 (plainElem Try.prog 3) B n D ∧ IsMap D ∧ ∀ z : Int, ¬ metZ v i k z → D.atKey (.int .i64 z) (.lit (.int .i64 0)) = .lit (.int .i64 0)
theorem MapI.keep {v : Vol} {w w' : World} {B i k : Nat} (h : MapI v w B i k) (hb : Below w.heap.size w w') : MapI v w' B i k := by
  obtain ⟨n, D, h1, h2, h3⟩ := h
  exact ⟨n, D, h1, h2.kept ⟨hb.os, hb.tape, hb.output, hb.size, fun q hq _ => hb.block q hq⟩ (row := none) (by simp), h3⟩
theorem MapI.hole {v : Vol} {w : World} {B i k : Nat} (h : MapI v w B i k) (hn : S3 (i + 1)) (hk : k < 70) : MapI v w B i (k + 1) := by
  obtain ⟨n, D, h1, h2, h3, h4⟩ := h
  exact ⟨n, D, by omega, h2, h3, fun z hz => h4 z (met_step hz hn hk).1⟩
theorem MapI.next {v : Vol} {w : World} {B i : Nat} (hv : LV v) (hi : i < 3) (h : MapI v w B i (needS (sizeX (inoV v (i + 1))))) : MapI v w B (i + 1) 0 := by
  obtain ⟨n, D, h1, h2, h3, h4⟩ := h
  have := need_le (inoV v (i + 1))
  exact ⟨n, D, by omega, h2, h3, fun z hz => h4 z (met_next hv hi hz)⟩
theorem isMap_put {D : DataW Unit} (h : IsMap D) (kl : Lit) (d : DataW Unit) : IsMap (D.put kl d) := by
  obtain ⟨es, rfl⟩ := h
  exact ⟨_, rfl⟩
theorem grown_of {W W' : World} (hb : Below W.heap.size W W') : W.grownBy W' none := ⟨hb.os, hb.tape, hb.output, hb.size, fun q hq _ => hb.block q hq⟩
/-- How many blocks the first i files have. -/
def sumC (v : Vol) (i : Nat) : Nat := ((List.range i).map fun m => countV v (m + 1)).sum
theorem sumC_succ (v : Vol) (i : Nat) : sumC v (i + 1) = sumC v i + countV v (i + 1) := by simp [sumC, List.range_succ]
theorem cnt_le (v : Vol) (n : Nat) : countV v n ≤ 72 := by
  rw [countV_cntR]
  exact Nat.le_trans List.countP_le_length (by simp)
set_option maxHeartbeats 16000000 in
theorem rooms_ok (Al : Option Addr) (cl : Nat) (l : List Deed) (w : World) (hl : RA w Al l) (hd : ∀ a ∈ l, okD a) :
    Calls Try.prog 13 #[.slice Al l.length cl] w fun e w' => e = .returned (.bool true) ∧ Below w.heap.size w w' := by
  have HL := Lib.hid hl
  have hdg := Lib.hid (fun w hr => dgreat_ok Al cl l w hr)
  have hla := Lib.hid (fun w hr => laid_ok Al cl l w hr hd)
  have hLV := Lib.hid (lv_laid l)
  have hLI := Lib.hid (li_laid l)
  have hfmt := Lib.hid (fun w => format_ok 40 4 w (by decide))
  rw [show fmtV 40 4 = lv0 from rfl] at hfmt
  have hl0 : lv0.length = 40 := lv_facts.2.2.1.1
  have hok0 : okV lv0 = true := lv_facts.1.1
  have hrs0 : Hid (∀ (A : Option Addr) (c : Nat) w, RS w A lv0 → Calls Try.prog 47 #[.slice A 40 c] w fun e w' => e = .returned (.int .i64 (freeN lv0)) ∧ Below w.heap.size w w') := Lib.hid (fun A c w hr => by
    have := room_ok A c lv0 w hr hok0
    rwa [hl0] at this)
  have HL0 := Lib.hid hl0
  clear hl hd hl0 hok0
  go_enter Try.func13, Try.ntmps13
  go_upto_region 7 with (first
    | (go_at_call 36; refine (hdg.out _ HL.out).mono ?_; rintro e w1 ⟨⟨bq, rfl⟩, hb1⟩; have HB1 := Lib.hid hb1; clear hb1; cases bq)
    | (go_at_call 17; refine (fixed_ok _).mono ?_; rintro e w8 ⟨rfl, hb8⟩; have HB8 := Lib.hid hb8; clear hb8)
    | (go_at_call 48; refine (hfmt.out _).mono ?_; rintro e w2 ⟨g1, rfl, hg1, hs1, hb2⟩; have HG1 := Lib.hid (hg1.rs (by rw [HL0.out]; omega)); have HB2 := Lib.hid (below_keep HB1.out (Nat.le_refl _) hb2); clear hg1 hb2)
    | (go_at_call 41; refine (hla.out _ (HL.out.keep HB2.out)).mono ?_; rintro e w3 ⟨A3, c3, u3, rfl, hr3, ho5, hb3⟩; obtain ⟨gn, cn, rfl, hgn, hcn⟩ := own_open ho5 (by omega); have HR3 := Lib.hid hr3; have HB3 := Lib.hid (below_keep HB2.out (Nat.le_refl _) hb3); have HN := Lib.hid (fun m (hm : m < 3) => hcn m _ (ns3_get m hm)); have HS3 := Lib.hid (HG1.out.below hb3); clear hr3 ho5 hb3 hcn))
  · obtain ⟨V, hV⟩ : ∃ V, laidV l = V := ⟨_, rfl⟩
    rw [hV] at HR3 hLV hLI ⊢
    clear hV hla
    have hrv := Lib.hid (fun w hr => room_ok A3 c3 V w hr hLV.out.sv.ok)
    have hsum := room_sum hLV.out
    obtain ⟨rv, hrve⟩ : ∃ rv, freeN V = rv := ⟨_, rfl⟩
    obtain ⟨F, hF⟩ : ∃ F, freeN lv0 = F := ⟨_, rfl⟩
    have hF40 : F ≤ 40 := by rw [← hF]; exact Nat.le_trans (Nat.le_trans List.countP_le_length (by simp)) (Nat.le_of_eq HL0.out)
    rw [hrve] at hrv hsum
    rw [hF] at hsum hrs0
    have hs3 : rv + sumC V 3 = F := by rw [← hsum]; simp [sumC, List.range_succ]; omega
    have HSUM := Lib.hid hs3
    have HF := Lib.hid hF
    clear hsum hs3 hF hrve
    go_upto_region 8 with (go_at_call 47; refine (hrv.out _ HR3.out).mono ?_; rintro e w5 ⟨rfl, hb5⟩; have HB5 := Lib.hid hb5; clear hb5)
    have HR5 := Lib.hid (HR3.out.below HB5.out)
    have HS5 := Lib.hid (HS3.out.below HB5.out)
    have HN5 := Lib.hid (fun m (hm : m < 3) => cell_keep (HN.out m hm) HB5.out)
    have HB6 := Lib.hid (below_keep HB3.out (Nat.le_refl _) HB5.out)
    clear HR3 HS3 HN HB5
    have hmm := @run_makeMap Try.prog
    go_wp2
    have hm0 : MapI V (w5.alloc (.map #[] 0)) w5.heap.size 0 0 := ⟨0, .map [], by omega, World.ownsMap_made _ _ _ _, ⟨_, rfl⟩, fun z _ => rfl⟩
    have hbm : Below w5.heap.size w5 (w5.alloc (.map #[] 0)) := (Below.refl _ _).alloc (Nat.le_refl _) _
    have HM0 := Lib.hid hm0
    have HBM := Lib.hid hbm
    clear hm0 hbm hmm
    obtain ⟨B, hBe⟩ : ∃ B, w5.heap.size = B := ⟨_, rfl⟩
    have HBE := Lib.hid hBe
    rw [hBe] at HM0 HBM ⊢
    clear hBe
    go_loopw [7, 37] (fun nv iv wr => ∃ i : Nat, i ≤ 3 ∧ nv = .int .i64 ((rv + sumC V i : Nat) : Int) ∧ iv = .int .i64 i ∧ Hid (MapI V wr B i 0) ∧ Hid (Below B w5 wr)) (fun _ iv _ => 3 - (intOf iv).toNat)
    case atStart => exact ⟨0, by omega, rfl, rfl, HM0, HBM⟩
    case round =>
      obtain ⟨i, hi, rfl, rfl, hM, hB⟩ := hrel
      have HB5' : Hid (Below w5.heap.size w5 wr) := Lib.hid (by rw [HBE.out]; exact hB.out)
      by_cases hlt : i < 3
      · have hii : (i : Int) < 3 := by omega
        have sn : S3 (i + 1) := ⟨by omega, by omega⟩
        have cN := cell_keep (HN5.out i hlt) HB5'.out
        have hct := Lib.hid (fun w hr => count_ok A3 c3 V (i + 1) w hr hLV.out.sv.ok (by omega) (by rw [hLV.out.ino]; omega) (inoV_size _ _))
        have hbl := Lib.hid (fun w hr => blocks_at hLV.out sn rfl rfl A3 c3 w hr)
        have hcl := cnt_le V (i + 1)
        have hsc := sumC_succ V i
        have hsl : sumC V i ≤ 72 * i := by
          rcases (by omega : i = 0 ∨ i = 1 ∨ i = 2) with rfl | rfl | rfl
          · simp [sumC]
          · have := cnt_le V 1; simp [sumC, List.range_succ]; omega
          · have := cnt_le V 1; have := cnt_le V 2; simp [sumC, List.range_succ]; omega
        have hbL := blocks_len V (i + 1)
        have hb70 := need_le (inoV V (i + 1))
        have hbg := fun k hk => blocks_get V (i + 1) k hk
        obtain ⟨Hs, hHs⟩ : ∃ Hs, blocksV V (i + 1) = Hs := ⟨_, rfl⟩
        obtain ⟨ct, hcte⟩ : ∃ ct, countV V (i + 1) = ct := ⟨_, rfl⟩
        rw [hHs] at hbl hbL hbg
        rw [hcte] at hct hcl hsc
        obtain ⟨S, hS⟩ : ∃ S, sumC V i = S := ⟨_, rfl⟩
        rw [hS] at hsc hsl ⊢
        have hrvl : rv ≤ 40 := by have := HSUM.out; omega
        rw [← hbL] at hb70 hbg
        have HSC := Lib.hid hsc
        have HBG := Lib.hid hbg
        have HBL := Lib.hid hbL
        have cN2 := cN
        have hi1 : ((i + 1 : Nat) : Int) = (i : Int) + 1 := rfl
        rw [hi1] at hct hbl cN
        clear hsc hbg hbL hHs hcte hS hi1 cN2
        go_wp2_with (first
          | (go_at_call 22; refine (hct.out _ (HR5.out.below HB5'.out)).mono ?_; rintro e w6 ⟨rfl, hb6⟩; have HC6 := Lib.hid hb6; have cN3 := cell_keep cN hb6; clear hb6 hct)
          | (go_at_call 18; refine (hbl.out _ ((HR5.out.below HB5'.out).below HC6.out)).mono ?_; rintro e w7 ⟨u7, rfl, ho7, hb7⟩; have HC7 := Lib.hid hb7; have HO7 := Lib.hid ho7; obtain ⟨a7, cp7, rfl⟩ := own_slice ho7; clear hb7 ho7 hbl))
        have hM7 := Lib.hid ((hM.out.keep HC6.out).keep HC7.out)
        have hBs := hB.out.size
        have hB7 := Lib.hid (below_more (below_more hB.out (by rw [← HBE.out]; exact hBs) HC6.out) (by rw [← HBE.out]; exact Nat.le_trans hBs HC6.out.size) HC7.out)
        clear cN cN3
        go_loopw [50] (fun jv wr => ∃ k : Nat, k ≤ Hs.length ∧ jv = .int .i64 k ∧ Hid (MapI V wr B i k) ∧ Hid (Below B w5 wr) ∧ Hid (wr.ownsRow w6.heap.size 3 1 (.slice a7 Hs.length cp7) Hs.length (ints Hs))) (fun jv _ => Hs.length - (intOf jv).toNat)
        case atStart => exact ⟨0, by omega, rfl, hM7, hB7, HO7⟩
        case round =>
          obtain ⟨k, hk, rfl, hMk, hBk, hOk⟩ := hrel
          by_cases hlt2 : k < Hs.length
          · have hki : (k : Int) < (Hs.length : Int) := by omega
            obtain ⟨ga, ca, e1, _, hca⟩ := own_open hOk.out (by omega)
            injection e1 with e1a e1b e1c
            subst e1a e1c
            have hck := hca k _ (ints_get Hs k hlt2)
            have hgk : Hs.getD k (-1) = holeI (refV V (inoV V (i + 1)) k) := by rw [List.getD_eq_getElem?_getD, HBG.out k hlt2, Option.getD_some]
            obtain ⟨r, hr⟩ : ∃ r, refV V (inoV V (i + 1)) k = r := ⟨_, rfl⟩
            rw [hr] at hgk
            rw [hgk] at hck
            clear hca hgk
            have hBks := hBk.out.size
            by_cases hr0 : r = 0
            · rw [show holeI r = -1 from by rw [holeI, if_pos hr0]] at hck
              have hMn := Lib.hid (hMk.out.hole sn (by omega))
              clear hr hr0
              go_wp2
              exact ⟨⟨k + 1, by omega, by go_num, hMn, hBk, hOk⟩, by simp only [intOf]; go_num⟩
            · rw [show holeI r = (r : Int) from by rw [holeI, if_neg hr0]] at hck
              have hrl := refV_lt (v := V) (x := inoV V (i + 1)) (κ := k) (by rw [hr]; exact hr0)
              rw [hr] at hrl
              have HVL := Lib.hid hLV.out.len
              have hbit := hLV.out.sv.sd.bits (i + 1) k sn (by omega) (by rw [hr]; exact hr0)
              have hnm := met_not hLV.out sn (by omega : k < 70) (by rw [hr]; exact hr0)
              rw [hr] at hbit hnm
              have hus := Lib.hid (fun w hr' => used1_ok A3 c3 V r w hr' hLV.out.sv.ok hrl.2)
              rw [hbit] at hus
              obtain ⟨n, D, hn, hown, hisD, hat0⟩ := hMk.out
              have hD0 := hat0 (r : Int) hnm
              have hwf : (Lit.int .i64 (r : Int)).wf = true := WalkArith.wf_i64 (by have := HVL.out; omega)
              have hkey : keyOf Try.prog 3 (.int .i64 (r : Int)) = some (.int .i64 (r : Int)) := keyOf_int_mk Try.underlying3 hwf
              have hr00 : (0 : Int) ≤ (r : Int) := by omega
              have HD0 := Lib.hid hD0
              have HAT := Lib.hid hat0
              have HIS := Lib.hid hisD
              have HOW := Lib.hid hown
              have HKY := Lib.hid hkey
              have HRR := Lib.hid hr
              clear hD0 hat0 hisD hown hkey hbit hnm hr hr0
              have hnb : n < 1000 := by omega
              go_wp2_with (first
                | (at_lookup; refine wpList_lookup_own_int _ rfl _ _ 71 rfl 3 3 .i64 kLaw Try.underlying71 Try.underlying3 (kZero _) B (n + 1) _ rfl hown1 _ _ rfl HKY.out ?_; intro c hat hwc; have hc1 : c = 1 := (by rw [atKey_put_same (k := Lit.int .i64 (r : Int)) HIS.out trivial] at hat; injection hat with hat; injection hat with _ hat; exact hat.symm); subst hc1; clear hat)
                | (at_lookup; refine wpList_lookup_own_int _ rfl _ _ 71 rfl 3 3 .i64 kLaw Try.underlying71 Try.underlying3 (kZero _) B n _ rfl HOW.out _ _ rfl HKY.out ?_; intro c hat hwc; have hc0 : c = 0 := (by rw [HD0.out] at hat; injection hat with hat; injection hat with _ hat; exact hat.symm); subst hc0; clear hat)
                | (at_mapUpdate; refine wpList_mapUpdate_own _ rfl _ _ _ 71 rfl 3 3 kLaw Try.underlying71 _ B n _ rfl HOW.out (by unfold maxLen; omega) _ _ _ rfl rfl HKY.out (.lit (.int .i64 1)) [] (plainElem_int Try.underlying3 (WalkArith.wf_i64 (by omega))) ?_; intro w1 hown1 hgrow1)
                | (go_at_call 49; refine (hus.out _ (HR5.out.below (by rw [HBE.out]; exact hBk.out.grown hgrow1 (by rw [← HBE.out]; exact hBks) (fun j hj => by cases hj; exact Nat.le_refl _)))).mono ?_; rintro e w2 ⟨rfl, hb2⟩; have HU2 := Lib.hid hb2; clear hb2)
                | go_in)
              have hbw := hBk.out.grown hgrow1 (by rw [← HBE.out]; exact hBks) (fun j hj => by cases hj; exact Nat.le_refl _)
              have hdp := dataV_pos V
              obtain ⟨es, clock, hmb, _⟩ := HOW.out
              have hown2 := own_below (own_grown hOk.out hgrow1 (fun q e => by cases e; exact ⟨_, hmb, rfl⟩)) HU2.out
              have hmi : MapI V w1 B i (k + 1) := ⟨n + 1, _, by omega, hown1, isMap_put HIS.out _ _, fun z hz => by
                have hz' := met_step hz sn (by omega : k < 70)
                rw [HRR.out] at hz'
                rw [atKey_put_other (fun e => by injection e with _ e; exact hz'.2 (by omega) e)]
                exact HAT.out z hz'.1⟩
              exact ⟨⟨k + 1, by omega, by go_num, Lib.hid (hmi.keep HU2.out), Lib.hid (below_more hbw (Nat.le_trans (by rw [← HBE.out]; exact hBks) hgrow1.size) HU2.out), Lib.hid hown2⟩, by simp only [intOf]; go_num⟩
          · obtain rfl : k = Hs.length := by omega
            have hmn := MapI.next hLV.out hlt (by rw [← HBL.out]; exact hMk.out)
            have HMN := Lib.hid hmn
            clear hmn
            go_wp2
            exact ⟨⟨i + 1, by omega, by rw [HSC.out]; go_num, by go_num, HMN, hBk⟩, by simp only [intOf]; go_num⟩
      · obtain rfl : i = 3 := by omega
        rw [HSUM.out, show ((3 : Nat) : Int) = 3 from rfl]
        obtain ⟨W0, hW0⟩ : ∃ W0, W0 = wr := ⟨_, rfl⟩
        subst hW0
        have HR6 := Lib.hid (HR5.out.below HB5'.out)
        have HS6 := Lib.hid (HS5.out.below HB5'.out)
        have HN6 := Lib.hid (fun m (hm : m < 3) => cell_keep (HN5.out m hm) HB5'.out)
        have HB7 := Lib.hid (below_keep HB6.out (Nat.le_refl _) HB5'.out)
        clear hM hB hlt hi
        go_wp2
        go_loopw [5, 74] (fun sv iv wr => ∃ (i : Nat) (v' : Vol) (A' : Option Addr) (c' : Nat), i ≤ 3 ∧ sv = .slice A' v'.length c' ∧ iv = .int .i64 i ∧ Hid (RS wr A' v') ∧ Hid (LV v' ∧ LI v' ∧ ∀ m, 1 ≤ m → m ≤ i → countV v' m = 0) ∧ Hid (Below W0.heap.size W0 wr)) (fun _ iv _ => 3 - (intOf iv).toNat)
        case atStart => exact ⟨0, V, A3, c3, by omega, rfl, rfl, HR6, ⟨hLV.out, hLI.out, fun m h1 h2 => by omega⟩, Below.refl _ _⟩
        case round =>
          obtain ⟨i, v', A', c', hi, rfl, rfl, hr', hv', hB'⟩ := hrel
          by_cases hlt : i < 3
          · have hii : (i : Int) < 3 := by omega
            have sn : S3 (i + 1) := ⟨by omega, by omega⟩
            have cN := cell_keep (HN6.out i hlt) hB'.out
            obtain ⟨p1, p2, p3, p4, p5⟩ := cut0_pure hv'.out.1 hv'.out.2.1 sn
            have hcu := Lib.hid (fun w hr => cut_is A' c' v' ((i + 1 : Nat) : Int) 0 w hr)
            rw [p3] at hcu
            obtain ⟨X, hX⟩ : ∃ X, cutV v' (i + 1) 0 = X := ⟨_, rfl⟩
            rw [hX] at p1 p2 p4 p5 hcu
            have hct := Lib.hid (fun A c w hr => count_ok A c X (i + 1) w hr p1.sv.ok (by omega) (by rw [p1.ino]; omega) (inoV_size _ _))
            rw [p4] at hct
            have hi1 : ((i + 1 : Nat) : Int) = (i : Int) + 1 := rfl
            rw [hi1] at hct hcu cN
            have HP := Lib.hid (show LV X ∧ LI X ∧ ∀ m, 1 ≤ m → m ≤ i + 1 → countV X m = 0 from ⟨p1, p2, fun m h1 h2 => by
              by_cases e : m = i + 1
              · rw [e, p4]
              · rw [p5 m ⟨h1, by omega⟩ e]; exact hv'.out.2.2 m h1 (by omega)⟩)
            clear p1 p2 p3 p4 p5 hX hi1
            go_wp2_with (first
              | (go_at_call 38; refine (hcu.out _ hr'.out).mono ?_; rintro e w9 ⟨A9, c9, rfl, hr9, hb9⟩; have HR9 := Lib.hid hr9; have HB9 := Lib.hid hb9; clear hr9 hb9)
              | (go_at_call 22; refine (hct.out _ _ _ HR9.out).mono ?_; rintro e w10 ⟨rfl, hb10⟩; have HB10 := Lib.hid hb10; clear hb10))
            exact ⟨⟨i + 1, X, A9, c9, by omega, rfl, by go_num, HR9.out.below HB10.out, HP, below_keep (below_keep hB'.out (Nat.le_refl _) HB9.out) (Nat.le_refl _) HB10.out⟩, by simp only [intOf]; go_num⟩
          · obtain rfl : i = 3 := by omega
            have hroom := Lib.hid (fun w hr => room_ok A' c' v' w hr hv'.out.1.sv.ok)
            have hfr : freeN v' = F := by
              have := room_sum hv'.out.1
              rw [hv'.out.2.2 1 (by omega) (by omega), hv'.out.2.2 2 (by omega) (by omega), hv'.out.2.2 3 (by omega) (by omega), HF.out] at this
              omega
            rw [hfr] at hroom
            have HS7 := Lib.hid (HS6.out.below hB'.out)
            clear hfr
            go_wp2_with (first
              | (go_at_call 17; refine (fixed_ok _).mono ?_; rintro e w11 ⟨rfl, hb11⟩; have HB11 := Lib.hid hb11; clear hb11)
              | (go_at_call 47; refine (hrs0.out _ _ _ (HS7.out.below HB11.out)).mono ?_; rintro e w12 ⟨rfl, hb12⟩; have HB12 := Lib.hid (below_keep HB11.out (Nat.le_refl _) hb12); clear hb12 HS7)
              | (go_at_call 47; refine (hroom.out _ (hr'.out.below HB12.out)).mono ?_; rintro e w13 ⟨rfl, hb13⟩; have HB13 := Lib.hid (below_keep HB12.out (Nat.le_refl _) hb13); clear hb13 hroom)
              | (go_at_call 47; refine (hrs0.out _ _ _ ((HS6.out.below hB'.out).below HB13.out)).mono ?_; rintro e w14 ⟨rfl, hb14⟩; have HB14 := Lib.hid (below_keep HB13.out (Nat.le_refl _) hb14); clear hb14))
            go_ret
            exact ⟨rfl, below_keep (below_keep HB7.out (Nat.le_refl _) hB'.out) (Nat.le_refl _) HB14.out⟩
  · go_ret
    exact ⟨rfl, below_keep HB1.out (Nat.le_refl _) HB8.out⟩
end Go.Proofs.Ytacdohlhalnioaa
end

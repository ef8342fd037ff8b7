/- Joined: XYD XYE. -/
import Derived.Test.YtacdohlhalnioaaKC
/- The pure law of files: all bytes of a file, behind a write and behind a cut. -/
section
set_option linter.unusedVariables false
set_option linter.unusedSimpArgs false
set_option maxRecDepth 20000
namespace Go.Proofs.Ytacdohlhalnioaa
open Go.RowKit

/-- All bytes of a file. -/
def wholeV (v : Vol) (n : Nat) : Blk := readV v n 0 8960
theorem blkAt_blk (v : Vol) (x : Ino) {k : Nat} (hk : k < 70) : blkAt (dataV v) v.length v x k = blkV v x k := by
  rw [blkAt, blkV, refV_at _ _ hk]
theorem gb_cat {d L : Nat} {v : Vol} {x : Ino} (hs : ∀ j, j < L → (bk v j).length = 128) (m : Nat) : ∀ i, i < 128 * m → gb (catTo d L v x (List.range m)) i = gb (blkAt d L v x (i / 128)) (i % 128) := by
  induction m with
  | zero => intro i hi; omega
  | succ m ih =>
    intro i hi
    have hl := catTo_len (d := d) (x := x) hs (List.range m)
    rw [List.length_range] at hl
    have e : catTo d L v x (List.range (m + 1)) = catTo d L v x (List.range m) ++ blkAt d L v x m := by simp [catTo, List.range_succ]
    rw [e]
    by_cases h : i < 128 * m
    · rw [gb_append_left _ _ _ (by omega), ih i h]
    · rw [gb_append_right _ _ _ (by omega), hl, show i / 128 = m from by omega, show i - 128 * m = i % 128 from by omega]
theorem whole_len {v : Vol} (hv : okV v = true) (n : Nat) : (wholeV v n).length = sizeX (inoV v n) := by
  have hl := catTo_len (d := dataV v) (x := inoV v n) (fun j hj => (okV_iff.1 hv).size j hj) (List.range (needS (sizeX (inoV v n))))
  rw [List.length_range] at hl
  have e : needS (sizeX (inoV v n)) = (sizeX (inoV v n) + 127) / 128 := rfl
  have h9 : sizeX (inoV v n) ≤ 8960 := Nat.min_le_right _ _
  rw [wholeV, readV, contV, List.drop_zero, List.length_take, List.length_take, hl]
  omega
theorem whole_get {v : Vol} (hv : okV v = true) {n i : Nat} (hi : i < sizeX (inoV v n)) : gb (wholeV v n) i = gb (blkV v (inoV v n) (i / 128)) (i % 128) := by
  have e : needS (sizeX (inoV v n)) = (sizeX (inoV v n) + 127) / 128 := rfl
  have h9 : sizeX (inoV v n) ≤ 8960 := Nat.min_le_right _ _
  rw [wholeV, readV, contV, List.drop_zero, gb_take _ _ _ (by omega), gb_take _ _ _ hi, gb_cat (fun j hj => (okV_iff.1 hv).size j hj) _ i (by omega), blkAt_blk _ _ (by omega)]
theorem whole_same {v w : Vol} {n : Nat} (hv : okV v = true) (hw : okV w = true) (hi : inoV w n = inoV v n) (hb : ∀ j, j < 70 → blkV w (inoV w n) j = blkV v (inoV v n) j) : wholeV w n = wholeV v n := by
  have h9 : sizeX (inoV v n) ≤ 8960 := Nat.min_le_right _ _
  refine blk_ext ?_ (fun i h => ?_)
  · rw [whole_len hw, whole_len hv, hi]
  · rw [whole_len hw] at h
    have h' := h
    rw [hi] at h'
    rw [whole_get hw h, whole_get hv h', hb _ (by omega)]
theorem LV.sizeX {v : Vol} (h : LV v) {n : Nat} (hn : S3 n) : sizeX (inoV v n) = (inoV v n).size := Nat.min_eq_left (h.fl n hn).size
/-- No other file's bytes are others. -/
theorem Chg.whole {v w : Vol} {n m : Nat} {y : Ino} (h : LV v) (hc : Chg S3 v n w y) (hm : S3 m) (hmn : m ≠ n) : wholeV w m = wholeV v m :=
  whole_same h.sv.ok hc.sv.ok (hc.ino m (h.sv.rng m hm).1 (h.sv.rng m hm).2 hmn) (hc.blk m hm hmn)
/-- Bytes with zeros behind them as far as they are needed, and a text in its place. -/
def wroteB (b : Blk) (a : Nat) (t : Blk) : Blk := if t = [] then b else over (b ++ zs (a + t.length - b.length)) a t
theorem reads_pure {v : Vol} {n : Nat} {off : Int} {t : Blk} {w : Vol} (h : LV v) (hn : S3 n) (hw : writeR v n off t = (0, w)) : LV w ∧ wholeV w n = wroteB (wholeV v n) off.toNat t ∧ ∀ m, S3 m → m ≠ n → wholeV w m = wholeV v m := by
  refine ⟨h.writeR hn hw, ?_⟩
  have hLw := h.writeR hn hw
  obtain ⟨a, rfl, ha, (⟨rfl, rfl⟩ | ⟨ht, v', x', h1, rfl⟩)⟩ := writeR_ok hw
  · exact ⟨by rw [wroteB, if_pos rfl], fun _ _ _ => rfl⟩
  · have hW := write_vol h.sv hn ha h1
    generalize putV v' n (if min x'.size 8960 < a + t.length then x'.setS (a + t.length) else x') = w at *
    obtain ⟨y, hC⟩ := hW.chg
    refine ⟨?_, fun m hm hmn => hC.whole h hm hmn⟩
    have hf := h.fl n hn
    have hs := hf.size
    have htl := List.length_pos_iff.2 ht
    have hsz : (inoV w n).size = if (inoV v n).size < a + t.length then a + t.length else (inoV v n).size := by rw [hW.size, Nat.min_eq_left hs]
    have hl := whole_len h.sv.ok n
    rw [h.sizeX hn] at hl
    have hlw := whole_len hLw.sv.ok n
    rw [hLw.sizeX hn] at hlw
    rw [show ((a : Int)).toNat = a from rfl, wroteB, if_neg ht]
    have hle : (wholeV v n ++ zs (a + t.length - (wholeV v n).length)).length = if (inoV v n).size < a + t.length then a + t.length else (inoV v n).size := by
      rw [List.length_append, zs_length, hl]
      split <;> omega
    have hal : a + t.length ≤ (wholeV v n ++ zs (a + t.length - (wholeV v n).length)).length := by rw [hle]; split <;> omega
    refine blk_ext (by rw [over_length _ _ _ hal, hle, hlw, hsz]) (fun i hi => ?_)
    have hiz : i < (inoV w n).size := by omega
    have h9 := (hLw.fl n hn).size
    rw [whole_get hLw.sv.ok (by rw [hLw.sizeX hn]; exact hiz), hW.byte i (by omega), gb_over _ _ _ hal]
    by_cases c : a ≤ i ∧ i < a + t.length
    · rw [if_pos c, if_pos c]
    · rw [if_neg c, if_neg c]
      by_cases c2 : i < (inoV v n).size
      · rw [gb_append_left _ _ _ (by omega), whole_get h.sv.ok (by rw [h.sizeX hn]; exact c2)]
      · rw [gb_append_right _ _ _ (by omega), gb_zeros]
        exact hf.zero i (by omega) (by omega)
/-- A write that can't be done. -/
theorem writes_no {v : Vol} {n a : Nat} {t : Blk} {er : Int} {X : Vol} (h : LV v) (hn : S3 n) (hw : writeR v n a t = (er, X)) (he : er ≠ 0) : X = [] ∧ (er = 10 ∨ (er = 6 ∧ 8960 < a + t.length)) := by
  obtain ⟨r1, r2⟩ := h.sv.rng n hn
  have hg : getE v (n : Int) = 0 := getE_is h.sv.ok (by omega) (by omega)
  rw [writeR, if_neg (by simp [hg]), if_neg (by omega)] at hw
  split at hw
  · rename_i hc
    obtain ⟨rfl, rfl⟩ := Prod.mk.inj hw
    exact ⟨rfl, .inr ⟨rfl, by omega⟩⟩
  · split at hw
    · exact absurd (congrArg Prod.fst hw).symm he
    · rw [show ((n : Int)).toNat = n from rfl, show ((a : Int)).toNat = a from rfl] at hw
      generalize wrV t.length v (inoV v n) a t = R at hw
      rcases R with _ | ⟨v', x'⟩
      · have h2 : ((10 : Int), ([] : Vol)) = (er, X) := hw
        obtain ⟨rfl, rfl⟩ := Prod.mk.inj h2
        exact ⟨rfl, .inl rfl⟩
      · have h2 : (0 : Int) = er := congrArg Prod.fst hw
        exact absurd h2.symm he
/-- The first bytes, or these and zeros. -/
def cutB (b : Blk) (s : Nat) : Blk := b.take (min s b.length) ++ zs (s - b.length)
theorem cuts_pure {v : Vol} {n s : Nat} (h : LV v) (hn : S3 n) (hs9 : s ≤ 8960) : cutR v n s = (0, cutV v n s) ∧ LV (cutV v n s) ∧ wholeV (cutV v n s) n = cutB (wholeV v n) s ∧ ∀ m, S3 m → m ≠ n → wholeV (cutV v n s) m = wholeV v m := by
  obtain ⟨r1, r2⟩ := h.sv.rng n hn
  have hg : getE v (n : Int) = 0 := getE_is h.sv.ok (by omega) (by omega)
  have hR : cutR v n s = (0, cutV v n s) := by
    rw [cutR, if_neg (by simp [hg]), if_neg (by omega)]
    rfl
  have hL := h.cut hn hs9
  have hW := cut_vol h.sv hn hs9
  obtain ⟨y, hC⟩ := hW.chg
  refine ⟨hR, hL, ?_, fun m hm hmn => hC.whole h hm hmn⟩
  have hf := h.fl n hn
  have hl := whole_len h.sv.ok n
  have hlw := whole_len hL.sv.ok n
  rw [hL.sizeX hn, hW.size] at hlw
  have hsx := h.sizeX hn
  rw [hsx] at hl
  refine blk_ext (by rw [cutB, List.length_append, List.length_take, zs_length, hlw]; omega) (fun i hi => ?_)
  rw [whole_get hL.sv.ok (by rw [hL.sizeX hn, hW.size]; omega), hW.byte i (by omega), hsx, cutB]
  have hlt : ((wholeV v n).take (min s (wholeV v n).length)).length = min s (wholeV v n).length := by rw [List.length_take]; omega
  rw [if_neg (by omega)]
  by_cases c : i < (inoV v n).size
  · rw [gb_append_left _ _ _ (by omega), gb_take _ _ _ (by omega), whole_get h.sv.ok (by rw [hsx]; exact c)]
  · rw [gb_append_right _ _ _ (by omega), gb_zeros]
    exact hf.zero i (by omega) (by omega)
end Go.Proofs.Ytacdohlhalnioaa
end

/- Contract: all bytes of a file. The law ExtentCuts, walked. -/
section
set_option linter.unusedVariables false
set_option linter.unusedSimpArgs false
set_option maxRecDepth 20000
namespace Go.Proofs.Ytacdohlhalnioaa
open Go.RowKit
attribute [local go_sem] Oper.semAt_some

set_option maxHeartbeats 1000000 in
theorem whole_ok (A : Option Addr) (c : Nat) (v : Vol) (n : Nat) (w : World) (hr : RS w A v) (hv : okV v = true) (h1 : 1 ≤ n) (h2 : n ≤ inosV v) :
    Calls Try.prog 50 #[.slice A v.length c, .int .i64 n] w fun e w' => e = .returned (.string (mk (wholeV v n))) ∧ Below w.heap.size w w' := by
  have HRD := Lib.hid (fun w hr => read_ok A c v n 0 8960 w hr hv h1 h2 (inoV_size _ _))
  have HR := Lib.hid hr
  clear hr
  obtain ⟨B, hB⟩ : ∃ B, readV v n 0 8960 = B := ⟨_, rfl⟩
  rw [wholeV, hB]
  rw [hB] at HRD
  clear hB
  go_enter Try.func50, Try.ntmps50
  go_wp2_with (go_at_call 20; refine (HRD.out _ HR.out).mono ?_; rintro e w1 ⟨rfl, hb1⟩)
  go_ret
  exact ⟨rfl, hb1⟩
theorem whole_at {v : Vol} (h : LV v) {n : Nat} (hn : S3 n) {L : Nat} (hL : v.length = L) {B : Blk} (hB : wholeV v n = B) (A : Option Addr) (c : Nat) (w : World) (hr : RS w A v) :
    Calls Try.prog 50 #[.slice A L c, .int .i64 n] w fun e w' => e = .returned (.string (mk B)) ∧ Below w.heap.size w w' := by
  subst hL hB
  exact whole_ok A c v n w hr h.sv.ok (h.sv.rng n hn).1 (h.sv.rng n hn).2
set_option maxHeartbeats 16000000 in
theorem cuts_ok (Al : Option Addr) (cl : Nat) (l : List Deed) (p0 p1 : Nat) (w : World) (hl : RA w Al l) (hd : ∀ a ∈ l, okD a) (hp0 : p0 < 65536) (hp1 : p1 < 65536) :
    Calls Try.prog 15 #[.slice Al l.length cl, .agg #[.int .u16 p0, .int .u16 p1]] w fun e w' => e = .returned (.bool true) ∧ Below w.heap.size w w' := by
  have HL := Lib.hid hl
  have hdg := Lib.hid (fun w hr => dgreat_ok Al cl l w hr)
  have hla := Lib.hid (fun w hr => laid_ok Al cl l w hr hd)
  have hLV := Lib.hid (lv_laid l)
  have hbA : Below w.heap.size w (w.alloc (.cells #[.int .u16 p0, .int .u16 p1] 73)) := (Below.refl _ _).alloc (Nat.le_refl _) _
  have hq0 := blk_new w (.cells #[.int .u16 p0, .int .u16 p1] 73)
  have HBA := Lib.hid hbA
  have HQ := Lib.hid hq0
  clear hl hd hbA hq0
  obtain ⟨s, hs, hs9⟩ : ∃ s : Nat, (p0 : Int).tmod 8961 = (s : Int) ∧ s ≤ 8960 := by
    rw [Int.tmod_eq_emod_of_nonneg (by omega)]
    exact ⟨p0 % 8961, by omega, by omega⟩
  obtain ⟨m, hm, hm9⟩ : ∃ m : Nat, (p1 : Int).tmod 8961 = (m : Int) ∧ m ≤ 8960 := by
    rw [Int.tmod_eq_emod_of_nonneg (by omega)]
    exact ⟨p1 % 8961, by omega, by omega⟩
  have hw0 : IntKind.i64.wrap (p0 : Int) = (p0 : Int) := by simp [IntKind.wrap, IntKind.bits, IntKind.signed]; omega
  have hw1 : IntKind.i64.wrap (p1 : Int) = (p1 : Int) := by simp [IntKind.wrap, IntKind.bits, IntKind.signed]; omega
  have hws : IntKind.i64.wrap (s : Int) = (s : Int) := by simp [IntKind.wrap, IntKind.bits, IntKind.signed]; omega
  have hwm : IntKind.i64.wrap (m : Int) = (m : Int) := by simp [IntKind.wrap, IntKind.bits, IntKind.signed]; omega
  go_enter Try.func15, Try.ntmps15
  go_upto_region 6 with (first
    | (go_at_call 36; refine (hdg.out _ (HL.out.keep HBA.out)).mono ?_; rintro e w2 ⟨⟨bq, rfl⟩, hb2⟩; have HB2 := Lib.hid (below_keep HBA.out (Nat.le_refl _) hb2); have HQ2 := Lib.hid (blk_keep HQ.out hb2); clear hb2; cases bq)
    | (go_at_call 17; refine (fixed_ok _).mono ?_; rintro e w8 ⟨rfl, hb8⟩; have HB8 := Lib.hid hb8; clear hb8)
    | (go_at_call 41; refine (hla.out _ (HL.out.keep HB2.out)).mono ?_; rintro e w3 ⟨A3, c3, u3, rfl, hr3, ho5, hb3⟩; obtain ⟨gn, cn, rfl, hgn, hcn⟩ := own_open ho5 (by omega); have HR3 := Lib.hid hr3; have HB3 := Lib.hid (below_keep HB2.out (Nat.le_refl _) hb3); have HN := Lib.hid (show w3.cell? ⟨gn, 0, none⟩ = some (.int .i64 1) ∧ w3.cell? ⟨gn, 1, none⟩ = some (.int .i64 2) ∧ w3.cell? ⟨gn, 2, none⟩ = some (.int .i64 3) from ⟨hcn 0 _ rfl, hcn 1 _ rfl, hcn 2 _ rfl⟩); have HQ3 := Lib.hid (blk_keep HQ2.out hb3); clear hr3 ho5 hb3 hcn))
  · have e0 : w3.cell? ⟨w.heap.size, 0, none⟩ = some (.int .u16 p0) := by rw [cell_at HQ3.out]; rfl
    have e1 : w3.cell? ⟨w.heap.size, 1, none⟩ = some (.int .u16 p1) := by rw [cell_at HQ3.out]; rfl
    obtain ⟨V, hV⟩ : ∃ V, laidV l = V := ⟨_, rfl⟩
    rw [hV] at HR3 hLV ⊢
    clear hV hla
    obtain ⟨c1, L1, w1', o1⟩ := cuts_pure hLV.out (n := 2) (s := s) ⟨by omega, by omega⟩ hs9
    obtain ⟨W1, hW1⟩ : ∃ W1, cutV V 2 s = W1 := ⟨_, rfl⟩
    rw [hW1] at c1 L1 w1' o1
    obtain ⟨c2, L2, w2', o2⟩ := cuts_pure L1 (n := 2) (s := m) ⟨by omega, by omega⟩ hm9
    obtain ⟨W2, hW2⟩ : ∃ W2, cutV W1 2 m = W2 := ⟨_, rfl⟩
    rw [hW2] at c2 L2 w2' o2
    have hk1 := Lib.hid (fun w hr => cut_is A3 c3 V 2 s w hr)
    have hk2 := Lib.hid (fun A c w hr => cut_is A c W1 2 m w hr)
    rw [show cutR V 2 s = (0, W1) from c1] at hk1
    rw [show cutR W1 2 m = (0, W2) from c2] at hk2
    obtain ⟨B, hB⟩ : ∃ B, wholeV V 2 = B := ⟨_, rfl⟩
    have hBl : B.length ≤ 8960 := by rw [← hB, whole_len hLV.out.sv.ok]; exact Nat.min_le_right _ _
    rw [hB] at w1'
    obtain ⟨Ba, hBa⟩ : ∃ Ba, cutB B s = Ba := ⟨_, rfl⟩
    rw [hBa] at w1'
    obtain ⟨Bb, hBb⟩ : ∃ Bb, cutB Ba m = Bb := ⟨_, rfl⟩
    rw [w1', hBb] at w2'
    have hal : Ba.length = s := by rw [← hBa, cutB, List.length_append, List.length_take, zs_length]; omega
    have s1 : S3 1 := ⟨by omega, by omega⟩
    have s2 : S3 2 := ⟨by omega, by omega⟩
    have s3 : S3 3 := ⟨by omega, by omega⟩
    obtain ⟨B1, hB1⟩ : ∃ B1, wholeV V 1 = B1 := ⟨_, rfl⟩
    obtain ⟨B3, hB3⟩ : ∃ B3, wholeV V 3 = B3 := ⟨_, rfl⟩
    have q1 : wholeV W2 1 = B1 := by rw [o2 1 s1 (by omega), o1 1 s1 (by omega), hB1]
    have q3 : wholeV W2 3 = B3 := by rw [o2 3 s3 (by omega), o1 3 s3 (by omega), hB3]
    have hv0 : Hid (∀ w, RS w A3 V → Calls Try.prog 50 #[.slice A3 V.length c3, .int .i64 2] w fun e w' => e = .returned (.string (mk B)) ∧ Below w.heap.size w w') := Lib.hid (fun w hr => whole_at hLV.out s2 rfl hB A3 c3 w hr)
    have hv1 : Hid (∀ w, RS w A3 V → Calls Try.prog 50 #[.slice A3 V.length c3, .int .i64 1] w fun e w' => e = .returned (.string (mk B1)) ∧ Below w.heap.size w w') := Lib.hid (fun w hr => whole_at hLV.out s1 rfl hB1 A3 c3 w hr)
    have hv3 : Hid (∀ w, RS w A3 V → Calls Try.prog 50 #[.slice A3 V.length c3, .int .i64 3] w fun e w' => e = .returned (.string (mk B3)) ∧ Below w.heap.size w w') := Lib.hid (fun w hr => whole_at hLV.out s3 rfl hB3 A3 c3 w hr)
    have ha2 : Hid (∀ (A : Option Addr) (c : Nat) w, RS w A W1 → Calls Try.prog 50 #[.slice A W1.length c, .int .i64 2] w fun e w' => e = .returned (.string (mk Ba)) ∧ Below w.heap.size w w') := Lib.hid (fun A c w hr => whole_at L1 s2 rfl w1' A c w hr)
    have hb2' : Hid (∀ (A : Option Addr) (c : Nat) w, RS w A W2 → Calls Try.prog 50 #[.slice A W2.length c, .int .i64 2] w fun e w' => e = .returned (.string (mk Bb)) ∧ Below w.heap.size w w') := Lib.hid (fun A c w hr => whole_at L2 s2 rfl w2' A c w hr)
    have hb1' : Hid (∀ (A : Option Addr) (c : Nat) w, RS w A W2 → Calls Try.prog 50 #[.slice A W2.length c, .int .i64 1] w fun e w' => e = .returned (.string (mk B1)) ∧ Below w.heap.size w w') := Lib.hid (fun A c w hr => whole_at L2 s1 rfl q1 A c w hr)
    have hb3' : Hid (∀ (A : Option Addr) (c : Nat) w, RS w A W2 → Calls Try.prog 50 #[.slice A W2.length c, .int .i64 3] w fun e w' => e = .returned (.string (mk B3)) ∧ Below w.heap.size w w') := Lib.hid (fun A c w hr => whole_at L2 s3 rfl q3 A c w hr)
    obtain ⟨t1, ht1⟩ : ∃ t1, min s B.length = t1 := ⟨_, rfl⟩
    obtain ⟨z1, hz1⟩ : ∃ z1, s - B.length = z1 := ⟨_, rfl⟩
    obtain ⟨t2, ht2⟩ : ∃ t2, min m s = t2 := ⟨_, rfl⟩
    obtain ⟨z2, hz2⟩ : ∃ z2, m - s = z2 := ⟨_, rfl⟩
    have hba : List.take t1 B ++ zs z1 = Ba := by rw [← hBa, cutB, ht1, hz1]
    have hbb : List.take t2 Ba ++ zs z2 = Bb := by rw [← hBb, cutB, hal, ht2, hz2]
    have HBA2 := Lib.hid hba
    have HBB2 := Lib.hid hbb
    have HAL := Lib.hid hal
    clear c1 L1 w1' o1 c2 L2 w2' o2 hW1 hW2 hB hBa hBb hB1 hB3 q1 q3 hal hLV hba hbb s1 s2 s3
    go_quiet (fail)
    rename_i nq
    have HR4 := Lib.hid (HR3.out.below (below_drewN' w3 nq))
    have HB4 := Lib.hid (below_keep HB3.out (Nat.le_refl _) (below_drewN' w3 nq))
    have HN4 : Hid ((w3.drewN nq).cell? ⟨gn, 0, none⟩ = some (.int .i64 1) ∧ (w3.drewN nq).cell? ⟨gn, 1, none⟩ = some (.int .i64 2) ∧ (w3.drewN nq).cell? ⟨gn, 2, none⟩ = some (.int .i64 3)) := Lib.hid ⟨cell_keep HN.out.1 (below_drewN' w3 nq), cell_keep HN.out.2.1 (below_drewN' w3 nq), cell_keep HN.out.2.2 (below_drewN' w3 nq)⟩
    generalize w3.drewN nq = w4 at *
    have k1 := HN4.out.2.1
    clear e0 e1 HN HR3 HB3 HQ3
    go_upto_region 12 with (first
      | (go_at_call 38; refine (hk1.out _ HR4.out).mono ?_; rintro e w5 ⟨A4, c4, rfl, hr5, hb5⟩; have HR5 := Lib.hid hr5; have HB5 := Lib.hid hb5; have k2 := cell_keep HN4.out.2.1 hb5; clear hr5 hb5 k1 hk1)
      | (go_at_call 38; refine (hk2.out _ _ _ HR5.out).mono ?_; rintro e w6 ⟨A5, c5, rfl, hr6, hb6⟩; have HR6 := Lib.hid hr6; have HB6 := Lib.hid hb6; have k3 := cell_keep k2 hb6; clear hr6 hb6 k2 hk2)
      | (go_at_call 50; refine (hv0.out _ ((HR4.out.below HB5.out).below HB6.out)).mono ?_; rintro e w7 ⟨rfl, hb7⟩; have HB7 := Lib.hid hb7; clear hb7 k3))
    have hS : (fun w' => Hid (RS w' A3 V) ∧ Hid (RS w' A4 W1) ∧ Hid (RS w' A5 W2) ∧ w'.cell? ⟨gn, 0, none⟩ = some (.int .i64 1) ∧ w'.cell? ⟨gn, 1, none⟩ = some (.int .i64 2) ∧ w'.cell? ⟨gn, 2, none⟩ = some (.int .i64 3) ∧ Below w.heap.size w w') w7 := ⟨Lib.hid (((HR4.out.below HB5.out).below HB6.out).below HB7.out), Lib.hid ((HR5.out.below HB6.out).below HB7.out), Lib.hid (HR6.out.below HB7.out), cell_keep (cell_keep (cell_keep HN4.out.1 HB5.out) HB6.out) HB7.out, cell_keep (cell_keep (cell_keep HN4.out.2.1 HB5.out) HB6.out) HB7.out, cell_keep (cell_keep (cell_keep HN4.out.2.2 HB5.out) HB6.out) HB7.out, below_keep (below_keep (below_keep HB4.out (Nat.le_refl _) HB5.out) (Nat.le_refl _) HB6.out) (Nat.le_refl _) HB7.out⟩
    have HS := Lib.hid hS
    have hmn : min (s : Int) (B.length : Int) = (t1 : Int) := by omega
    have hmx : max ((s : Int) - (B.length : Int)) 0 = (z1 : Int) := by omega
    have hsb : IntKind.i64.wrap ((s : Int) - (B.length : Int)) = (s : Int) - (B.length : Int) := by simp [IntKind.wrap, IntKind.bits, IntKind.signed]; omega
    have ht1l : (t1 : Int) ≤ (B.length : Int) := by omega
    have ht10 : (0 : Int) ≤ (t1 : Int) := by omega
    have htm : min t1 B.length = t1 := by omega
    have hcc : ¬ (9223372036854775807 < t1 + z1) := by omega
    have hmk' : ∀ W, (Instr.makeSlice 62 (.int .i64 z1) (.int .i64 z1)).run Try.prog W = .ok (.slice (some ⟨W.heap.size, 0, none⟩) z1 z1) (W.alloc (.cells (bvs (zs z1)) 5)) := mk_u8 z1 (by omega)
    have hst : (convert 62 9 (.slice (some ⟨w7.heap.size, 0, none⟩) z1 z1)).run Try.prog (w7.alloc (.cells (bvs (zs z1)) 5)).drew = .ok (.string (mk (zs z1))) (w7.alloc (.cells (bvs (zs z1)) 5)).drew := str_of_u8 _ w7.heap.size 0 z1 z1 (zs z1) (by simp) (fun j hj => by
      rw [Nat.zero_add]
      show (w7.alloc (.cells (bvs (zs z1)) 5)).cell? _ = _
      rw [cell_at (blk_new w7 _), bvs_get _ _ (by simpa using hj)])
    have hba := HBA2.out
    clear hS
    refine region_P (fun w' => Hid (RS w' A3 V) ∧ Hid (RS w' A4 W1) ∧ Hid (RS w' A5 W2) ∧ w'.cell? ⟨gn, 0, none⟩ = some (.int .i64 1) ∧ w'.cell? ⟨gn, 1, none⟩ = some (.int .i64 2) ∧ w'.cell? ⟨gn, 2, none⟩ = some (.int .i64 3) ∧ Below w.heap.size w w') [] (by kernel_rfl) ?_ (fun hHeld => ?_)
    · exact ⟨HS.out.1, HS.out.2.1, HS.out.2.2.1, HS.out.2.2.2.1, HS.out.2.2.2.2.1, HS.out.2.2.2.2.2.1, HS.out.2.2.2.2.2.2.drew⟩
    refine wpP_take (i := 0) (oi := ?oi182001) (v := ?v182001) ?hi182001 (by kernel_rfl) (by kernel_rfl) (by kernel_rfl) (by kernel_rfl) ?hQ182001 ?hy182001 (by assumption) ?rest182001
    case hi182001 => (simp only [List.getElem?_toArray, List.getElem?_cons_succ, List.getElem?_cons_zero]; exact rfl)
    case hQ182001 => exact fun _ _ _ h => h
    case hy182001 => (refine Or.inl ⟨by kernel_rfl, ?_⟩; intro w hSw; (try dsimp only at hSw); go_simp; try (with_reducible rfl))
    try simp only [Act.put, List.setIfInBounds_toArray, List.set_cons_zero, List.set_cons_succ]
    refine wpP_take (i := 1) (oi := ?oi182002) (v := ?v182002) ?hi182002 (by kernel_rfl) (by kernel_rfl) (by kernel_rfl) (by kernel_rfl) ?hQ182002 ?hy182002 (by assumption) ?rest182002
    case hi182002 => (simp only [List.getElem?_toArray, List.getElem?_cons_succ, List.getElem?_cons_zero]; exact rfl)
    case hQ182002 => exact fun _ _ _ h => h
    case hy182002 => (refine Or.inl ⟨by kernel_rfl, ?_⟩; intro w hSw; (try dsimp only at hSw); go_simp; try (with_reducible rfl))
    try simp only [Act.put, List.setIfInBounds_toArray, List.set_cons_zero, List.set_cons_succ]
    refine wpP_take (i := 2) (oi := ?oi182003) (v := ?v182003) ?hi182003 (by kernel_rfl) (by kernel_rfl) (by kernel_rfl) (by kernel_rfl) ?hQ182003 ?hy182003 (by assumption) ?rest182003
    case hi182003 => (simp only [List.getElem?_toArray, List.getElem?_cons_succ, List.getElem?_cons_zero]; exact rfl)
    case hQ182003 => exact fun _ _ _ h => h
    case hy182003 => (refine Or.inl ⟨by kernel_rfl, ?_⟩; intro w hSw; (try dsimp only at hSw); go_simp; try (with_reducible rfl))
    try simp only [Act.put, List.setIfInBounds_toArray, List.set_cons_zero, List.set_cons_succ]
    refine wpP_take (i := 3) (oi := ?oi182004) (v := ?v182004) ?hi182004 (by kernel_rfl) (by kernel_rfl) (by kernel_rfl) (by kernel_rfl) ?hQ182004 ?hy182004 (by assumption) ?rest182004
    case hi182004 => (simp only [List.getElem?_toArray, List.getElem?_cons_succ, List.getElem?_cons_zero]; exact rfl)
    case hQ182004 => exact fun _ _ _ h => h
    case hy182004 => (refine Or.inl ⟨by kernel_rfl, ?_⟩; intro w hSw; (try dsimp only at hSw); go_simp; try (with_reducible rfl))
    try simp only [Act.put, List.setIfInBounds_toArray, List.set_cons_zero, List.set_cons_succ]
    refine wpP_take (i := 4) (oi := ?oi182005) (v := ?v182005) ?hi182005 (by kernel_rfl) (by kernel_rfl) (by kernel_rfl) (by kernel_rfl) ?hQ182005 ?hy182005 (by assumption) ?rest182005
    case hi182005 => (simp only [List.getElem?_toArray, List.getElem?_cons_succ, List.getElem?_cons_zero]; exact rfl)
    case hQ182005 => exact fun _ _ _ h => h
    case hy182005 => (refine Or.inl ⟨by kernel_rfl, ?_⟩; intro w hSw; (try dsimp only at hSw); go_simp; try (with_reducible rfl))
    try simp only [Act.put, List.setIfInBounds_toArray, List.set_cons_zero, List.set_cons_succ]
    refine wpP_take (i := 5) (oi := ?oi182006) (v := ?v182006) ?hi182006 (by kernel_rfl) (by kernel_rfl) (by kernel_rfl) (by kernel_rfl) ?hQ182006 ?hy182006 (by assumption) ?rest182006
    case hi182006 => (simp only [List.getElem?_toArray, List.getElem?_cons_succ, List.getElem?_cons_zero]; exact rfl)
    case hQ182006 => exact fun _ _ _ h => h
    case hy182006 => (refine Or.inl ⟨by kernel_rfl, ?_⟩; intro w hSw; (try dsimp only at hSw); go_simp; try (with_reducible rfl))
    try simp only [Act.put, List.setIfInBounds_toArray, List.set_cons_zero, List.set_cons_succ]
    refine wpP_take (i := 6) (oi := ?oi182007) (v := ?v182007) ?hi182007 (by kernel_rfl) (by kernel_rfl) (by kernel_rfl) (by kernel_rfl) ?hQ182007 ?hy182007 (by assumption) ?rest182007
    case hi182007 => (simp only [List.getElem?_toArray, List.getElem?_cons_succ, List.getElem?_cons_zero]; exact rfl)
    case hQ182007 => exact fun _ _ _ h => h
    case hy182007 => (refine Or.inl ⟨by kernel_rfl, ?_⟩; intro w hSw; (try dsimp only at hSw); go_simp; try (with_reducible rfl))
    try simp only [Act.put, List.setIfInBounds_toArray, List.set_cons_zero, List.set_cons_succ]
    refine wpP_take (i := 7) (oi := ?oi182008) (v := ?v182008) ?hi182008 (by kernel_rfl) (by kernel_rfl) (by kernel_rfl) (by kernel_rfl) ?hQ182008 ?hy182008 (by assumption) ?rest182008
    case hi182008 => (simp only [List.getElem?_toArray, List.getElem?_cons_succ, List.getElem?_cons_zero]; exact rfl)
    case hQ182008 => exact fun _ _ _ h => h
    case hy182008 => (refine Or.inl ⟨by kernel_rfl, ?_⟩; intro w hSw; (try dsimp only at hSw); go_simp; try (with_reducible rfl))
    try simp only [Act.put, List.setIfInBounds_toArray, List.set_cons_zero, List.set_cons_succ]
    refine wpP_take (i := 8) (oi := ?oi182009) (v := ?v182009) ?hi182009 (by kernel_rfl) (by kernel_rfl) (by kernel_rfl) (by kernel_rfl) ?hQ182009 ?hy182009 (by assumption) ?rest182009
    case hi182009 => (simp only [List.getElem?_toArray, List.getElem?_cons_succ, List.getElem?_cons_zero]; exact rfl)
    case hQ182009 => exact fun _ _ _ h => h
    case hy182009 => (refine Or.inl ⟨by kernel_rfl, ?_⟩; intro w hSw; (try dsimp only at hSw); go_simp; try (with_reducible rfl))
    try simp only [Act.put, List.setIfInBounds_toArray, List.set_cons_zero, List.set_cons_succ]
    refine wpP_take (i := 9) (oi := ?oi182010) (v := ?v182010) ?hi182010 (by kernel_rfl) (by kernel_rfl) (by kernel_rfl) (by kernel_rfl) ?hQ182010 ?hy182010 (by assumption) ?rest182010
    case hi182010 => (simp only [List.getElem?_toArray, List.getElem?_cons_succ, List.getElem?_cons_zero]; exact rfl)
    case hQ182010 => exact fun _ _ _ h => h
    case hy182010 => (refine Or.inl ⟨by kernel_rfl, ?_⟩; intro w hSw; (try dsimp only at hSw); go_simp; try (with_reducible rfl))
    try simp only [Act.put, List.setIfInBounds_toArray, List.set_cons_zero, List.set_cons_succ]
    refine wpP_take (i := 10) (oi := ?oi182011) (v := ?v182011) ?hi182011 (by kernel_rfl) (by kernel_rfl) (by kernel_rfl) (by kernel_rfl) ?hQ182011 ?hy182011 (by assumption) ?rest182011
    case hi182011 => (simp only [List.getElem?_toArray, List.getElem?_cons_succ, List.getElem?_cons_zero]; exact rfl)
    case hQ182011 => exact fun _ _ _ h => h
    case hy182011 => (refine Or.inl ⟨by kernel_rfl, ?_⟩; intro w hSw; (try dsimp only at hSw); go_simp; try (with_reducible rfl))
    try simp only [Act.put, List.setIfInBounds_toArray, List.set_cons_zero, List.set_cons_succ]
    refine wpP_ready (rs := [11]) (by kernel_rfl) (by simp) ?_
    refine AllP.cons (o := ?o182012) ?ho182012 (fun K hK => ?_) AllP.nil
    case ho182012 => (simp only [List.getElem?_toArray, List.getElem?_cons_succ, List.getElem?_cons_zero]; exact rfl)
    go_simp
    refine hK.out _ _ ?_ (fun hHeld => ?_)
    · exact ⟨Lib.hid (hHeld.1.out.below ((Below.refl _ _).alloc (Nat.le_refl _) _)), Lib.hid (hHeld.2.1.out.below ((Below.refl _ _).alloc (Nat.le_refl _) _)), Lib.hid (hHeld.2.2.1.out.below ((Below.refl _ _).alloc (Nat.le_refl _) _)), cell_keep hHeld.2.2.2.1 ((Below.refl _ _).alloc (Nat.le_refl _) _), cell_keep hHeld.2.2.2.2.1 ((Below.refl _ _).alloc (Nat.le_refl _) _), cell_keep hHeld.2.2.2.2.2.1 ((Below.refl _ _).alloc (Nat.le_refl _) _), hHeld.2.2.2.2.2.2.trans (((Below.refl _ _).alloc (Nat.le_refl _) _).mono (hHeld.2.2.2.2.2.2.size))⟩
    clear hK K
    try simp only [Act.put, List.setIfInBounds_toArray, List.set_cons_zero, List.set_cons_succ]
    refine wpP_ready (rs := [12]) (by kernel_rfl) (by simp) ?_
    refine AllP.cons (o := ?o182013) ?ho182013 (fun K hK => ?_) AllP.nil
    case ho182013 => (simp only [List.getElem?_toArray, List.getElem?_cons_succ, List.getElem?_cons_zero]; exact rfl)
    go_simp
    refine hK.out _ _ ?_ (fun hHeld => ?_)
    · exact hHeld
    clear hK K
    try simp only [Act.put, List.setIfInBounds_toArray, List.set_cons_zero, List.set_cons_succ]
    refine wpP_take (i := 13) (oi := ?oi182014) (v := ?v182014) ?hi182014 (by kernel_rfl) (by kernel_rfl) (by kernel_rfl) (by kernel_rfl) ?hQ182014 ?hy182014 (by assumption) ?rest182014
    case hi182014 => (simp only [List.getElem?_toArray, List.getElem?_cons_succ, List.getElem?_cons_zero]; exact rfl)
    case hQ182014 => exact fun _ _ _ h => h
    case hy182014 => (refine Or.inl ⟨by kernel_rfl, ?_⟩; intro w hSw; (try dsimp only at hSw); go_simp; try (with_reducible rfl))
    try simp only [Act.put, List.setIfInBounds_toArray, List.set_cons_zero, List.set_cons_succ]
    refine wpP_take (i := 14) (oi := ?oi182015) (v := ?v182015) ?hi182015 (by kernel_rfl) (by kernel_rfl) (by kernel_rfl) (by kernel_rfl) ?hQ182015 ?hy182015 (by assumption) ?rest182015
    case hi182015 => (simp only [List.getElem?_toArray, List.getElem?_cons_succ, List.getElem?_cons_zero]; exact rfl)
    case hQ182015 => exact fun _ _ _ h => h
    case hy182015 => (refine Or.inl ⟨by kernel_rfl, ?_⟩; intro w hSw; (try dsimp only at hSw); go_simp; try (with_reducible rfl))
    try simp only [Act.put, List.setIfInBounds_toArray, List.set_cons_zero, List.set_cons_succ]
    refine wpP_done (by kernel_rfl) ?_ _
    clear hmn hmx hsb ht1l ht10 htm hcc hmk' hst hba HS
    have HS8 := Lib.hid hHeld
    clear hHeld
    generalize (w7.alloc (.cells (bvs (zs z1)) 5)).drew = w8 at *
    go_upto_region 13 with (fail)
    have hmn : min (m : Int) (Ba.length : Int) = (t2 : Int) := by have := HAL.out; omega
    have hmx : max ((m : Int) - (Ba.length : Int)) 0 = (z2 : Int) := by have := HAL.out; omega
    have hsb : IntKind.i64.wrap ((m : Int) - (Ba.length : Int)) = (m : Int) - (Ba.length : Int) := by have := HAL.out; simp [IntKind.wrap, IntKind.bits, IntKind.signed]; omega
    have ht1l : (t2 : Int) ≤ (Ba.length : Int) := by have := HAL.out; omega
    have ht10 : (0 : Int) ≤ (t2 : Int) := by omega
    have htm : min t2 Ba.length = t2 := by have := HAL.out; omega
    have hcc : ¬ (9223372036854775807 < t2 + z2) := by omega
    have hmk' : ∀ W, (Instr.makeSlice 62 (.int .i64 z2) (.int .i64 z2)).run Try.prog W = .ok (.slice (some ⟨W.heap.size, 0, none⟩) z2 z2) (W.alloc (.cells (bvs (zs z2)) 5)) := mk_u8 z2 (by omega)
    have hst : (convert 62 9 (.slice (some ⟨w8.heap.size, 0, none⟩) z2 z2)).run Try.prog (w8.alloc (.cells (bvs (zs z2)) 5)).drew = .ok (.string (mk (zs z2))) (w8.alloc (.cells (bvs (zs z2)) 5)).drew := str_of_u8 _ w8.heap.size 0 z2 z2 (zs z2) (by simp) (fun j hj => by
      rw [Nat.zero_add]
      show (w8.alloc (.cells (bvs (zs z2)) 5)).cell? _ = _
      rw [cell_at (blk_new w8 _), bvs_get _ _ (by simpa using hj)])
    have hbb := HBB2.out
    refine region_P (fun w' => Hid (RS w' A3 V) ∧ Hid (RS w' A4 W1) ∧ Hid (RS w' A5 W2) ∧ w'.cell? ⟨gn, 0, none⟩ = some (.int .i64 1) ∧ w'.cell? ⟨gn, 1, none⟩ = some (.int .i64 2) ∧ w'.cell? ⟨gn, 2, none⟩ = some (.int .i64 3) ∧ Below w.heap.size w w') [] (by kernel_rfl) ?_ (fun hHeld => ?_)
    · exact ⟨HS8.out.1, HS8.out.2.1, HS8.out.2.2.1, HS8.out.2.2.2.1, HS8.out.2.2.2.2.1, HS8.out.2.2.2.2.2.1, HS8.out.2.2.2.2.2.2.drew⟩
    refine wpP_take (i := 0) (oi := ?oi182016) (v := ?v182016) ?hi182016 (by kernel_rfl) (by kernel_rfl) (by kernel_rfl) (by kernel_rfl) ?hQ182016 ?hy182016 (by assumption) ?rest182016
    case hi182016 => (simp only [List.getElem?_toArray, List.getElem?_cons_succ, List.getElem?_cons_zero]; exact rfl)
    case hQ182016 => exact fun _ _ _ h => h
    case hy182016 => (refine Or.inl ⟨by kernel_rfl, ?_⟩; intro w hSw; (try dsimp only at hSw); go_simp; try (with_reducible rfl))
    try simp only [Act.put, List.setIfInBounds_toArray, List.set_cons_zero, List.set_cons_succ]
    refine wpP_take (i := 1) (oi := ?oi182017) (v := ?v182017) ?hi182017 (by kernel_rfl) (by kernel_rfl) (by kernel_rfl) (by kernel_rfl) ?hQ182017 ?hy182017 (by assumption) ?rest182017
    case hi182017 => (simp only [List.getElem?_toArray, List.getElem?_cons_succ, List.getElem?_cons_zero]; exact rfl)
    case hQ182017 => exact fun _ _ _ h => h
    case hy182017 => (refine Or.inl ⟨by kernel_rfl, ?_⟩; intro w hSw; (try dsimp only at hSw); go_simp; try (with_reducible rfl))
    try simp only [Act.put, List.setIfInBounds_toArray, List.set_cons_zero, List.set_cons_succ]
    refine wpP_take (i := 2) (oi := ?oi182018) (v := ?v182018) ?hi182018 (by kernel_rfl) (by kernel_rfl) (by kernel_rfl) (by kernel_rfl) ?hQ182018 ?hy182018 (by assumption) ?rest182018
    case hi182018 => (simp only [List.getElem?_toArray, List.getElem?_cons_succ, List.getElem?_cons_zero]; exact rfl)
    case hQ182018 => exact fun _ _ _ h => h
    case hy182018 => (refine Or.inl ⟨by kernel_rfl, ?_⟩; intro w hSw; (try dsimp only at hSw); go_simp; try (with_reducible rfl))
    try simp only [Act.put, List.setIfInBounds_toArray, List.set_cons_zero, List.set_cons_succ]
    refine wpP_take (i := 3) (oi := ?oi182019) (v := ?v182019) ?hi182019 (by kernel_rfl) (by kernel_rfl) (by kernel_rfl) (by kernel_rfl) ?hQ182019 ?hy182019 (by assumption) ?rest182019
    case hi182019 => (simp only [List.getElem?_toArray, List.getElem?_cons_succ, List.getElem?_cons_zero]; exact rfl)
    case hQ182019 => exact fun _ _ _ h => h
    case hy182019 => (refine Or.inl ⟨by kernel_rfl, ?_⟩; intro w hSw; (try dsimp only at hSw); go_simp; try (with_reducible rfl))
    try simp only [Act.put, List.setIfInBounds_toArray, List.set_cons_zero, List.set_cons_succ]
    refine wpP_take (i := 4) (oi := ?oi182020) (v := ?v182020) ?hi182020 (by kernel_rfl) (by kernel_rfl) (by kernel_rfl) (by kernel_rfl) ?hQ182020 ?hy182020 (by assumption) ?rest182020
    case hi182020 => (simp only [List.getElem?_toArray, List.getElem?_cons_succ, List.getElem?_cons_zero]; exact rfl)
    case hQ182020 => exact fun _ _ _ h => h
    case hy182020 => (refine Or.inl ⟨by kernel_rfl, ?_⟩; intro w hSw; (try dsimp only at hSw); go_simp; try (with_reducible rfl))
    try simp only [Act.put, List.setIfInBounds_toArray, List.set_cons_zero, List.set_cons_succ]
    refine wpP_take (i := 5) (oi := ?oi182021) (v := ?v182021) ?hi182021 (by kernel_rfl) (by kernel_rfl) (by kernel_rfl) (by kernel_rfl) ?hQ182021 ?hy182021 (by assumption) ?rest182021
    case hi182021 => (simp only [List.getElem?_toArray, List.getElem?_cons_succ, List.getElem?_cons_zero]; exact rfl)
    case hQ182021 => exact fun _ _ _ h => h
    case hy182021 => (refine Or.inl ⟨by kernel_rfl, ?_⟩; intro w hSw; (try dsimp only at hSw); go_simp; try (with_reducible rfl))
    try simp only [Act.put, List.setIfInBounds_toArray, List.set_cons_zero, List.set_cons_succ]
    refine wpP_take (i := 6) (oi := ?oi182022) (v := ?v182022) ?hi182022 (by kernel_rfl) (by kernel_rfl) (by kernel_rfl) (by kernel_rfl) ?hQ182022 ?hy182022 (by assumption) ?rest182022
    case hi182022 => (simp only [List.getElem?_toArray, List.getElem?_cons_succ, List.getElem?_cons_zero]; exact rfl)
    case hQ182022 => exact fun _ _ _ h => h
    case hy182022 => (refine Or.inl ⟨by kernel_rfl, ?_⟩; intro w hSw; (try dsimp only at hSw); go_simp; try (with_reducible rfl))
    try simp only [Act.put, List.setIfInBounds_toArray, List.set_cons_zero, List.set_cons_succ]
    refine wpP_take (i := 7) (oi := ?oi182023) (v := ?v182023) ?hi182023 (by kernel_rfl) (by kernel_rfl) (by kernel_rfl) (by kernel_rfl) ?hQ182023 ?hy182023 (by assumption) ?rest182023
    case hi182023 => (simp only [List.getElem?_toArray, List.getElem?_cons_succ, List.getElem?_cons_zero]; exact rfl)
    case hQ182023 => exact fun _ _ _ h => h
    case hy182023 => (refine Or.inl ⟨by kernel_rfl, ?_⟩; intro w hSw; (try dsimp only at hSw); go_simp; try (with_reducible rfl))
    try simp only [Act.put, List.setIfInBounds_toArray, List.set_cons_zero, List.set_cons_succ]
    refine wpP_take (i := 8) (oi := ?oi182024) (v := ?v182024) ?hi182024 (by kernel_rfl) (by kernel_rfl) (by kernel_rfl) (by kernel_rfl) ?hQ182024 ?hy182024 (by assumption) ?rest182024
    case hi182024 => (simp only [List.getElem?_toArray, List.getElem?_cons_succ, List.getElem?_cons_zero]; exact rfl)
    case hQ182024 => exact fun _ _ _ h => h
    case hy182024 => (refine Or.inl ⟨by kernel_rfl, ?_⟩; intro w hSw; (try dsimp only at hSw); go_simp; try (with_reducible rfl))
    try simp only [Act.put, List.setIfInBounds_toArray, List.set_cons_zero, List.set_cons_succ]
    refine wpP_take (i := 9) (oi := ?oi182025) (v := ?v182025) ?hi182025 (by kernel_rfl) (by kernel_rfl) (by kernel_rfl) (by kernel_rfl) ?hQ182025 ?hy182025 (by assumption) ?rest182025
    case hi182025 => (simp only [List.getElem?_toArray, List.getElem?_cons_succ, List.getElem?_cons_zero]; exact rfl)
    case hQ182025 => exact fun _ _ _ h => h
    case hy182025 => (refine Or.inl ⟨by kernel_rfl, ?_⟩; intro w hSw; (try dsimp only at hSw); go_simp; try (with_reducible rfl))
    try simp only [Act.put, List.setIfInBounds_toArray, List.set_cons_zero, List.set_cons_succ]
    refine wpP_take (i := 10) (oi := ?oi182026) (v := ?v182026) ?hi182026 (by kernel_rfl) (by kernel_rfl) (by kernel_rfl) (by kernel_rfl) ?hQ182026 ?hy182026 (by assumption) ?rest182026
    case hi182026 => (simp only [List.getElem?_toArray, List.getElem?_cons_succ, List.getElem?_cons_zero]; exact rfl)
    case hQ182026 => exact fun _ _ _ h => h
    case hy182026 => (refine Or.inl ⟨by kernel_rfl, ?_⟩; intro w hSw; (try dsimp only at hSw); go_simp; try (with_reducible rfl))
    try simp only [Act.put, List.setIfInBounds_toArray, List.set_cons_zero, List.set_cons_succ]
    refine wpP_ready (rs := [11]) (by kernel_rfl) (by simp) ?_
    refine AllP.cons (o := ?o182027) ?ho182027 (fun K hK => ?_) AllP.nil
    case ho182027 => (simp only [List.getElem?_toArray, List.getElem?_cons_succ, List.getElem?_cons_zero]; exact rfl)
    go_simp
    refine hK.out _ _ ?_ (fun hHeld => ?_)
    · exact ⟨Lib.hid (hHeld.1.out.below ((Below.refl _ _).alloc (Nat.le_refl _) _)), Lib.hid (hHeld.2.1.out.below ((Below.refl _ _).alloc (Nat.le_refl _) _)), Lib.hid (hHeld.2.2.1.out.below ((Below.refl _ _).alloc (Nat.le_refl _) _)), cell_keep hHeld.2.2.2.1 ((Below.refl _ _).alloc (Nat.le_refl _) _), cell_keep hHeld.2.2.2.2.1 ((Below.refl _ _).alloc (Nat.le_refl _) _), cell_keep hHeld.2.2.2.2.2.1 ((Below.refl _ _).alloc (Nat.le_refl _) _), hHeld.2.2.2.2.2.2.trans (((Below.refl _ _).alloc (Nat.le_refl _) _).mono (hHeld.2.2.2.2.2.2.size))⟩
    clear hK K
    try simp only [Act.put, List.setIfInBounds_toArray, List.set_cons_zero, List.set_cons_succ]
    refine wpP_ready (rs := [12]) (by kernel_rfl) (by simp) ?_
    refine AllP.cons (o := ?o182028) ?ho182028 (fun K hK => ?_) AllP.nil
    case ho182028 => (simp only [List.getElem?_toArray, List.getElem?_cons_succ, List.getElem?_cons_zero]; exact rfl)
    go_simp
    refine hK.out _ _ ?_ (fun hHeld => ?_)
    · exact hHeld
    clear hK K
    try simp only [Act.put, List.setIfInBounds_toArray, List.set_cons_zero, List.set_cons_succ]
    refine wpP_take (i := 13) (oi := ?oi182029) (v := ?v182029) ?hi182029 (by kernel_rfl) (by kernel_rfl) (by kernel_rfl) (by kernel_rfl) ?hQ182029 ?hy182029 (by assumption) ?rest182029
    case hi182029 => (simp only [List.getElem?_toArray, List.getElem?_cons_succ, List.getElem?_cons_zero]; exact rfl)
    case hQ182029 => exact fun _ _ _ h => h
    case hy182029 => (refine Or.inl ⟨by kernel_rfl, ?_⟩; intro w hSw; (try dsimp only at hSw); go_simp; try (with_reducible rfl))
    try simp only [Act.put, List.setIfInBounds_toArray, List.set_cons_zero, List.set_cons_succ]
    refine wpP_take (i := 14) (oi := ?oi182030) (v := ?v182030) ?hi182030 (by kernel_rfl) (by kernel_rfl) (by kernel_rfl) (by kernel_rfl) ?hQ182030 ?hy182030 (by assumption) ?rest182030
    case hi182030 => (simp only [List.getElem?_toArray, List.getElem?_cons_succ, List.getElem?_cons_zero]; exact rfl)
    case hQ182030 => exact fun _ _ _ h => h
    case hy182030 => (refine Or.inl ⟨by kernel_rfl, ?_⟩; intro w hSw; (try dsimp only at hSw); go_simp; try (with_reducible rfl))
    try simp only [Act.put, List.setIfInBounds_toArray, List.set_cons_zero, List.set_cons_succ]
    refine wpP_done (by kernel_rfl) ?_ _
    clear hmn hmx hsb ht1l ht10 htm hcc hmk' hst hbb HS8
    have HS9 := Lib.hid hHeld
    clear hHeld
    generalize (w8.alloc (.cells (bvs (zs z2)) 5)).drew = w9 at *
    go_upto_region 14 with (fail)
    refine region_P (fun w' => Hid (RS w' A3 V) ∧ Hid (RS w' A4 W1) ∧ Hid (RS w' A5 W2) ∧ w'.cell? ⟨gn, 0, none⟩ = some (.int .i64 1) ∧ w'.cell? ⟨gn, 1, none⟩ = some (.int .i64 2) ∧ w'.cell? ⟨gn, 2, none⟩ = some (.int .i64 3) ∧ Below w.heap.size w w') [] (by kernel_rfl) ?_ (fun hHeld => ?_)
    · exact ⟨HS9.out.1, HS9.out.2.1, HS9.out.2.2.1, HS9.out.2.2.2.1, HS9.out.2.2.2.2.1, HS9.out.2.2.2.2.2.1, HS9.out.2.2.2.2.2.2.drew⟩
    refine wpP_ready (rs := [0]) (by kernel_rfl) (by simp) ?_
    refine AllP.cons (o := ?o182031) ?ho182031 (fun K hK => ?_) AllP.nil
    case ho182031 => (simp only [List.getElem?_toArray, List.getElem?_cons_succ, List.getElem?_cons_zero]; exact rfl)
    go_simp
    go_at_call 17
    refine (fixed_ok _).mono ?_
    rintro e w9 ⟨rfl, hb9⟩
    refine hK.out _ _ ?_ (fun hHeld => ?_)
    · exact ⟨Lib.hid (hHeld.1.out.below hb9), Lib.hid (hHeld.2.1.out.below hb9), Lib.hid (hHeld.2.2.1.out.below hb9), cell_keep hHeld.2.2.2.1 hb9, cell_keep hHeld.2.2.2.2.1 hb9, cell_keep hHeld.2.2.2.2.2.1 hb9, hHeld.2.2.2.2.2.2.trans (hb9.mono (hHeld.2.2.2.2.2.2.size))⟩
    clear hK K
    try simp only [Act.put, List.setIfInBounds_toArray, List.set_cons_zero, List.set_cons_succ]
    refine wpP_take (i := 1) (oi := ?oi182032) (v := ?v182032) ?hi182032 (by kernel_rfl) (by kernel_rfl) (by kernel_rfl) (by kernel_rfl) ?hQ182032 ?hy182032 (by assumption) ?rest182032
    case hi182032 => (simp only [List.getElem?_toArray, List.getElem?_cons_succ, List.getElem?_cons_zero]; exact rfl)
    case hQ182032 => exact fun _ _ _ h => h
    case hy182032 => (refine Or.inl ⟨by kernel_rfl, ?_⟩; intro w hSw; (try dsimp only at hSw); go_simp; try (with_reducible rfl))
    try simp only [Act.put, List.setIfInBounds_toArray, List.set_cons_zero, List.set_cons_succ]
    refine wpP_take (i := 2) (oi := ?oi182033) (v := ?v182033) ?hi182033 (by kernel_rfl) (by kernel_rfl) (by kernel_rfl) (by kernel_rfl) ?hQ182033 ?hy182033 (by assumption) ?rest182033
    case hi182033 => (simp only [List.getElem?_toArray, List.getElem?_cons_succ, List.getElem?_cons_zero]; exact rfl)
    case hQ182033 => exact fun _ _ _ h => h
    case hy182033 => (refine Or.inl ⟨by kernel_rfl, ?_⟩; intro w hSw; (try dsimp only at hSw); go_simp; try (with_reducible rfl))
    try simp only [Act.put, List.setIfInBounds_toArray, List.set_cons_zero, List.set_cons_succ]
    refine wpP_take (i := 3) (oi := ?oi182034) (v := ?v182034) ?hi182034 (by kernel_rfl) (by kernel_rfl) (by kernel_rfl) (by kernel_rfl) ?hQ182034 ?hy182034 (by assumption) ?rest182034
    case hi182034 => (simp only [List.getElem?_toArray, List.getElem?_cons_succ, List.getElem?_cons_zero]; exact rfl)
    case hQ182034 => exact fun _ _ _ h => h
    case hy182034 => (refine Or.inl ⟨by kernel_rfl, ?_⟩; intro w hSw; (try dsimp only at hSw); go_simp; try (with_reducible rfl))
    try simp only [Act.put, List.setIfInBounds_toArray, List.set_cons_zero, List.set_cons_succ]
    refine wpP_take (i := 4) (oi := ?oi182035) (v := ?v182035) ?hi182035 (by kernel_rfl) (by kernel_rfl) (by kernel_rfl) (by kernel_rfl) ?hQ182035 ?hy182035 (by assumption) ?rest182035
    case hi182035 => (simp only [List.getElem?_toArray, List.getElem?_cons_succ, List.getElem?_cons_zero]; exact rfl)
    case hQ182035 => exact fun _ _ _ h => h
    case hy182035 => (refine Or.inl ⟨by kernel_rfl, ?_⟩; intro w hSw; (try dsimp only at hSw); go_simp; try (with_reducible rfl))
    try simp only [Act.put, List.setIfInBounds_toArray, List.set_cons_zero, List.set_cons_succ]
    refine wpP_take (i := 5) (oi := ?oi182036) (v := ?v182036) ?hi182036 (by kernel_rfl) (by kernel_rfl) (by kernel_rfl) (by kernel_rfl) ?hQ182036 ?hy182036 (by assumption) ?rest182036
    case hi182036 => (simp only [List.getElem?_toArray, List.getElem?_cons_succ, List.getElem?_cons_zero]; exact rfl)
    case hQ182036 => exact fun _ _ _ h => h
    case hy182036 => (refine Or.inl ⟨by kernel_rfl, ?_⟩; intro w hSw; (try dsimp only at hSw); go_simp; try (with_reducible rfl))
    try simp only [Act.put, List.setIfInBounds_toArray, List.set_cons_zero, List.set_cons_succ]
    refine wpP_take (i := 7) (oi := ?oi182037) (v := ?v182037) ?hi182037 (by kernel_rfl) (by kernel_rfl) (by kernel_rfl) (by kernel_rfl) ?hQ182037 ?hy182037 (by assumption) ?rest182037
    case hi182037 => (simp only [List.getElem?_toArray, List.getElem?_cons_succ, List.getElem?_cons_zero]; exact rfl)
    case hQ182037 => exact fun _ _ _ h => h
    case hy182037 => (refine Or.inl ⟨by kernel_rfl, ?_⟩; intro w hSw; (try dsimp only at hSw); go_simp; try (with_reducible rfl))
    try simp only [Act.put, List.setIfInBounds_toArray, List.set_cons_zero, List.set_cons_succ]
    refine wpP_ready (rs := [6]) (by kernel_rfl) (by simp) ?_
    refine AllP.cons (o := ?o182038) ?ho182038 (fun K hK => ?_) AllP.nil
    case ho182038 => (simp only [List.getElem?_toArray, List.getElem?_cons_succ, List.getElem?_cons_zero]; exact rfl)
    go_simp
    go_at_call 50
    refine (ha2.out _ _ _ (hHeld.2.1.out)).mono ?_
    rintro e w9 ⟨rfl, hb9⟩
    refine hK.out _ _ ?_ (fun hHeld => ?_)
    · exact ⟨Lib.hid (hHeld.1.out.below hb9), Lib.hid (hHeld.2.1.out.below hb9), Lib.hid (hHeld.2.2.1.out.below hb9), cell_keep hHeld.2.2.2.1 hb9, cell_keep hHeld.2.2.2.2.1 hb9, cell_keep hHeld.2.2.2.2.2.1 hb9, hHeld.2.2.2.2.2.2.trans (hb9.mono (hHeld.2.2.2.2.2.2.size))⟩
    clear hK K
    try simp only [Act.put, List.setIfInBounds_toArray, List.set_cons_zero, List.set_cons_succ]
    refine wpP_take (i := 8) (oi := ?oi182039) (v := ?v182039) ?hi182039 (by kernel_rfl) (by kernel_rfl) (by kernel_rfl) (by kernel_rfl) ?hQ182039 ?hy182039 (by assumption) ?rest182039
    case hi182039 => (simp only [List.getElem?_toArray, List.getElem?_cons_succ, List.getElem?_cons_zero]; exact rfl)
    case hQ182039 => exact fun _ _ _ h => h
    case hy182039 => (refine Or.inl ⟨by kernel_rfl, ?_⟩; intro w hSw; (try dsimp only at hSw); go_simp; try (with_reducible rfl))
    try simp only [Act.put, List.setIfInBounds_toArray, List.set_cons_zero, List.set_cons_succ]
    refine wpP_take (i := 9) (oi := ?oi182040) (v := ?v182040) ?hi182040 (by kernel_rfl) (by kernel_rfl) (by kernel_rfl) (by kernel_rfl) ?hQ182040 ?hy182040 (by assumption) ?rest182040
    case hi182040 => (simp only [List.getElem?_toArray, List.getElem?_cons_succ, List.getElem?_cons_zero]; exact rfl)
    case hQ182040 => exact fun _ _ _ h => h
    case hy182040 => (refine Or.inl ⟨by kernel_rfl, ?_⟩; intro w hSw; (try dsimp only at hSw); go_simp; try (with_reducible rfl))
    try simp only [Act.put, List.setIfInBounds_toArray, List.set_cons_zero, List.set_cons_succ]
    refine wpP_take (i := 10) (oi := ?oi182041) (v := ?v182041) ?hi182041 (by kernel_rfl) (by kernel_rfl) (by kernel_rfl) (by kernel_rfl) ?hQ182041 ?hy182041 (by assumption) ?rest182041
    case hi182041 => (simp only [List.getElem?_toArray, List.getElem?_cons_succ, List.getElem?_cons_zero]; exact rfl)
    case hQ182041 => exact fun _ _ _ h => h
    case hy182041 => (refine Or.inl ⟨by kernel_rfl, ?_⟩; intro w hSw; (try dsimp only at hSw); go_simp; try (with_reducible rfl))
    try simp only [Act.put, List.setIfInBounds_toArray, List.set_cons_zero, List.set_cons_succ]
    refine wpP_take (i := 11) (oi := ?oi182042) (v := ?v182042) ?hi182042 (by kernel_rfl) (by kernel_rfl) (by kernel_rfl) (by kernel_rfl) ?hQ182042 ?hy182042 (by assumption) ?rest182042
    case hi182042 => (simp only [List.getElem?_toArray, List.getElem?_cons_succ, List.getElem?_cons_zero]; exact rfl)
    case hQ182042 => exact fun _ _ _ h => h
    case hy182042 => (refine Or.inl ⟨by kernel_rfl, ?_⟩; intro w hSw; (try dsimp only at hSw); go_simp; try (with_reducible rfl))
    try simp only [Act.put, List.setIfInBounds_toArray, List.set_cons_zero, List.set_cons_succ]
    refine wpP_take (i := 12) (oi := ?oi182043) (v := ?v182043) ?hi182043 (by kernel_rfl) (by kernel_rfl) (by kernel_rfl) (by kernel_rfl) ?hQ182043 ?hy182043 (by assumption) ?rest182043
    case hi182043 => (simp only [List.getElem?_toArray, List.getElem?_cons_succ, List.getElem?_cons_zero]; exact rfl)
    case hQ182043 => exact fun _ _ _ h => h
    case hy182043 => (refine Or.inl ⟨by kernel_rfl, ?_⟩; intro w hSw; (try dsimp only at hSw); go_simp; try (with_reducible rfl))
    try simp only [Act.put, List.setIfInBounds_toArray, List.set_cons_zero, List.set_cons_succ]
    refine wpP_take (i := 13) (oi := ?oi182044) (v := ?v182044) ?hi182044 (by kernel_rfl) (by kernel_rfl) (by kernel_rfl) (by kernel_rfl) ?hQ182044 ?hy182044 (by assumption) ?rest182044
    case hi182044 => (simp only [List.getElem?_toArray, List.getElem?_cons_succ, List.getElem?_cons_zero]; exact rfl)
    case hQ182044 => exact fun _ _ _ h => h
    case hy182044 => (refine Or.inl ⟨by kernel_rfl, ?_⟩; intro w hSw; (try dsimp only at hSw); go_simp; try (with_reducible rfl))
    try simp only [Act.put, List.setIfInBounds_toArray, List.set_cons_zero, List.set_cons_succ]
    refine wpP_take (i := 14) (oi := ?oi182045) (v := ?v182045) ?hi182045 (by kernel_rfl) (by kernel_rfl) (by kernel_rfl) (by kernel_rfl) ?hQ182045 ?hy182045 (by assumption) ?rest182045
    case hi182045 => (simp only [List.getElem?_toArray, List.getElem?_cons_succ, List.getElem?_cons_zero]; exact rfl)
    case hQ182045 => exact fun _ _ _ h => h
    case hy182045 => (refine Or.inl ⟨by kernel_rfl, ?_⟩; intro w hSw; (try dsimp only at hSw); go_simp; try (with_reducible rfl))
    try simp only [Act.put, List.setIfInBounds_toArray, List.set_cons_zero, List.set_cons_succ]
    refine wpP_take (i := 16) (oi := ?oi182046) (v := ?v182046) ?hi182046 (by kernel_rfl) (by kernel_rfl) (by kernel_rfl) (by kernel_rfl) ?hQ182046 ?hy182046 (by assumption) ?rest182046
    case hi182046 => (simp only [List.getElem?_toArray, List.getElem?_cons_succ, List.getElem?_cons_zero]; exact rfl)
    case hQ182046 => exact fun _ _ _ h => h
    case hy182046 => (refine Or.inl ⟨by kernel_rfl, ?_⟩; intro w hSw; (try dsimp only at hSw); go_simp; try (with_reducible rfl))
    try simp only [Act.put, List.setIfInBounds_toArray, List.set_cons_zero, List.set_cons_succ]
    refine wpP_ready (rs := [15]) (by kernel_rfl) (by simp) ?_
    refine AllP.cons (o := ?o182047) ?ho182047 (fun K hK => ?_) AllP.nil
    case ho182047 => (simp only [List.getElem?_toArray, List.getElem?_cons_succ, List.getElem?_cons_zero]; exact rfl)
    go_simp
    go_at_call 50
    refine (hb2'.out _ _ _ (hHeld.2.2.1.out)).mono ?_
    rintro e w9 ⟨rfl, hb9⟩
    refine hK.out _ _ ?_ (fun hHeld => ?_)
    · exact ⟨Lib.hid (hHeld.1.out.below hb9), Lib.hid (hHeld.2.1.out.below hb9), Lib.hid (hHeld.2.2.1.out.below hb9), cell_keep hHeld.2.2.2.1 hb9, cell_keep hHeld.2.2.2.2.1 hb9, cell_keep hHeld.2.2.2.2.2.1 hb9, hHeld.2.2.2.2.2.2.trans (hb9.mono (hHeld.2.2.2.2.2.2.size))⟩
    clear hK K
    try simp only [Act.put, List.setIfInBounds_toArray, List.set_cons_zero, List.set_cons_succ]
    refine wpP_take (i := 17) (oi := ?oi182048) (v := ?v182048) ?hi182048 (by kernel_rfl) (by kernel_rfl) (by kernel_rfl) (by kernel_rfl) ?hQ182048 ?hy182048 (by assumption) ?rest182048
    case hi182048 => (simp only [List.getElem?_toArray, List.getElem?_cons_succ, List.getElem?_cons_zero]; exact rfl)
    case hQ182048 => exact fun _ _ _ h => h
    case hy182048 => (refine Or.inl ⟨by kernel_rfl, ?_⟩; intro w hSw; (try dsimp only at hSw); go_simp; try (with_reducible rfl))
    try simp only [Act.put, List.setIfInBounds_toArray, List.set_cons_zero, List.set_cons_succ]
    refine wpP_take (i := 18) (oi := ?oi182049) (v := ?v182049) ?hi182049 (by kernel_rfl) (by kernel_rfl) (by kernel_rfl) (by kernel_rfl) ?hQ182049 ?hy182049 (by assumption) ?rest182049
    case hi182049 => (simp only [List.getElem?_toArray, List.getElem?_cons_succ, List.getElem?_cons_zero]; exact rfl)
    case hQ182049 => exact fun _ _ _ h => h
    case hy182049 => (refine Or.inl ⟨by kernel_rfl, ?_⟩; intro w hSw; (try dsimp only at hSw); go_simp; try (with_reducible rfl))
    try simp only [Act.put, List.setIfInBounds_toArray, List.set_cons_zero, List.set_cons_succ]
    refine wpP_take (i := 19) (oi := ?oi182050) (v := ?v182050) ?hi182050 (by kernel_rfl) (by kernel_rfl) (by kernel_rfl) (by kernel_rfl) ?hQ182050 ?hy182050 (by assumption) ?rest182050
    case hi182050 => (simp only [List.getElem?_toArray, List.getElem?_cons_succ, List.getElem?_cons_zero]; exact rfl)
    case hQ182050 => exact fun _ _ _ h => h
    case hy182050 => (refine Or.inl ⟨by kernel_rfl, ?_⟩; intro w hSw; (try dsimp only at hSw); go_simp; try (with_reducible rfl))
    try simp only [Act.put, List.setIfInBounds_toArray, List.set_cons_zero, List.set_cons_succ]
    refine wpP_take (i := 20) (oi := ?oi182051) (v := ?v182051) ?hi182051 (by kernel_rfl) (by kernel_rfl) (by kernel_rfl) (by kernel_rfl) ?hQ182051 ?hy182051 (by assumption) ?rest182051
    case hi182051 => (simp only [List.getElem?_toArray, List.getElem?_cons_succ, List.getElem?_cons_zero]; exact rfl)
    case hQ182051 => exact fun _ _ _ h => h
    case hy182051 => (refine Or.inl ⟨by kernel_rfl, ?_⟩; intro w hSw; (try dsimp only at hSw); go_simp; try (with_reducible rfl))
    try simp only [Act.put, List.setIfInBounds_toArray, List.set_cons_zero, List.set_cons_succ]
    refine wpP_take (i := 21) (oi := ?oi182052) (v := ?v182052) ?hi182052 (by kernel_rfl) (by kernel_rfl) (by kernel_rfl) (by kernel_rfl) ?hQ182052 ?hy182052 (by assumption) ?rest182052
    case hi182052 => (simp only [List.getElem?_toArray, List.getElem?_cons_succ, List.getElem?_cons_zero]; exact rfl)
    case hQ182052 => exact fun _ _ _ h => h
    case hy182052 => (refine Or.inl ⟨by kernel_rfl, ?_⟩; intro w hSw; (try dsimp only at hSw); go_simp; try (with_reducible rfl))
    try simp only [Act.put, List.setIfInBounds_toArray, List.set_cons_zero, List.set_cons_succ]
    refine wpP_take (i := 22) (oi := ?oi182053) (v := ?v182053) ?hi182053 (by kernel_rfl) (by kernel_rfl) (by kernel_rfl) (by kernel_rfl) ?hQ182053 ?hy182053 (by assumption) ?rest182053
    case hi182053 => (simp only [List.getElem?_toArray, List.getElem?_cons_succ, List.getElem?_cons_zero]; exact rfl)
    case hQ182053 => exact fun _ _ _ h => h
    case hy182053 => (refine Or.inl ⟨by kernel_rfl, ?_⟩; intro w hSw; (try dsimp only at hSw); go_simp; try (with_reducible rfl))
    try simp only [Act.put, List.setIfInBounds_toArray, List.set_cons_zero, List.set_cons_succ]
    refine wpP_take (i := 23) (oi := ?oi182054) (v := ?v182054) ?hi182054 (by kernel_rfl) (by kernel_rfl) (by kernel_rfl) (by kernel_rfl) ?hQ182054 ?hy182054 (by assumption) ?rest182054
    case hi182054 => (simp only [List.getElem?_toArray, List.getElem?_cons_succ, List.getElem?_cons_zero]; exact rfl)
    case hQ182054 => exact fun _ _ _ h => h
    case hy182054 => (refine Or.inl ⟨by kernel_rfl, ?_⟩; intro w hSw; (try dsimp only at hSw); go_simp; try (with_reducible rfl))
    try simp only [Act.put, List.setIfInBounds_toArray, List.set_cons_zero, List.set_cons_succ]
    refine wpP_take (i := 25) (oi := ?oi182055) (v := ?v182055) ?hi182055 (by kernel_rfl) (by kernel_rfl) (by kernel_rfl) (by kernel_rfl) ?hQ182055 ?hy182055 (by assumption) ?rest182055
    case hi182055 => (simp only [List.getElem?_toArray, List.getElem?_cons_succ, List.getElem?_cons_zero]; exact rfl)
    case hQ182055 => exact fun _ _ _ h => h
    case hy182055 => (refine Or.inl ⟨by kernel_rfl, ?_⟩; intro w hSw; (try dsimp only at hSw); go_simp; try (with_reducible rfl))
    try simp only [Act.put, List.setIfInBounds_toArray, List.set_cons_zero, List.set_cons_succ]
    refine wpP_take (i := 26) (oi := ?oi182056) (v := ?v182056) ?hi182056 (by kernel_rfl) (by kernel_rfl) (by kernel_rfl) (by kernel_rfl) ?hQ182056 ?hy182056 (by assumption) ?rest182056
    case hi182056 => (simp only [List.getElem?_toArray, List.getElem?_cons_succ, List.getElem?_cons_zero]; exact rfl)
    case hQ182056 => exact fun _ _ _ h => h
    case hy182056 => (refine Or.inl ⟨by kernel_rfl, ?_⟩; intro w hSw; (try dsimp only at hSw); go_simp; try (with_reducible rfl))
    try simp only [Act.put, List.setIfInBounds_toArray, List.set_cons_zero, List.set_cons_succ]
    refine wpP_take (i := 27) (oi := ?oi182057) (v := ?v182057) ?hi182057 (by kernel_rfl) (by kernel_rfl) (by kernel_rfl) (by kernel_rfl) ?hQ182057 ?hy182057 (by assumption) ?rest182057
    case hi182057 => (simp only [List.getElem?_toArray, List.getElem?_cons_succ, List.getElem?_cons_zero]; exact rfl)
    case hQ182057 => exact fun _ _ _ h => h
    case hy182057 => (refine Or.inl ⟨by kernel_rfl, ?_⟩; intro w hSw; (try dsimp only at hSw); go_simp; try (with_reducible rfl))
    try simp only [Act.put, List.setIfInBounds_toArray, List.set_cons_zero, List.set_cons_succ]
    refine wpP_take (i := 28) (oi := ?oi182058) (v := ?v182058) ?hi182058 (by kernel_rfl) (by kernel_rfl) (by kernel_rfl) (by kernel_rfl) ?hQ182058 ?hy182058 (by assumption) ?rest182058
    case hi182058 => (simp only [List.getElem?_toArray, List.getElem?_cons_succ, List.getElem?_cons_zero]; exact rfl)
    case hQ182058 => exact fun _ _ _ h => h
    case hy182058 => (refine Or.inl ⟨by kernel_rfl, ?_⟩; intro w hSw; (try dsimp only at hSw); go_simp; try (with_reducible rfl))
    try simp only [Act.put, List.setIfInBounds_toArray, List.set_cons_zero, List.set_cons_succ]
    refine wpP_ready (rs := [24]) (by kernel_rfl) (by simp) ?_
    refine AllP.cons (o := ?o182059) ?ho182059 (fun K hK => ?_) AllP.nil
    case ho182059 => (simp only [List.getElem?_toArray, List.getElem?_cons_succ, List.getElem?_cons_zero]; exact rfl)
    go_simp
    go_at_call 50
    refine (hb1'.out _ _ _ (hHeld.2.2.1.out)).mono ?_
    rintro e w9 ⟨rfl, hb9⟩
    refine hK.out _ _ ?_ (fun hHeld => ?_)
    · exact ⟨Lib.hid (hHeld.1.out.below hb9), Lib.hid (hHeld.2.1.out.below hb9), Lib.hid (hHeld.2.2.1.out.below hb9), cell_keep hHeld.2.2.2.1 hb9, cell_keep hHeld.2.2.2.2.1 hb9, cell_keep hHeld.2.2.2.2.2.1 hb9, hHeld.2.2.2.2.2.2.trans (hb9.mono (hHeld.2.2.2.2.2.2.size))⟩
    clear hK K
    try simp only [Act.put, List.setIfInBounds_toArray, List.set_cons_zero, List.set_cons_succ]
    refine wpP_ready (rs := [29]) (by kernel_rfl) (by simp) ?_
    refine AllP.cons (o := ?o182060) ?ho182060 (fun K hK => ?_) AllP.nil
    case ho182060 => (simp only [List.getElem?_toArray, List.getElem?_cons_succ, List.getElem?_cons_zero]; exact rfl)
    go_simp
    go_at_call 50
    refine (hv1.out _ (hHeld.1.out)).mono ?_
    rintro e w9 ⟨rfl, hb9⟩
    refine hK.out _ _ ?_ (fun hHeld => ?_)
    · exact ⟨Lib.hid (hHeld.1.out.below hb9), Lib.hid (hHeld.2.1.out.below hb9), Lib.hid (hHeld.2.2.1.out.below hb9), cell_keep hHeld.2.2.2.1 hb9, cell_keep hHeld.2.2.2.2.1 hb9, cell_keep hHeld.2.2.2.2.2.1 hb9, hHeld.2.2.2.2.2.2.trans (hb9.mono (hHeld.2.2.2.2.2.2.size))⟩
    clear hK K
    try simp only [Act.put, List.setIfInBounds_toArray, List.set_cons_zero, List.set_cons_succ]
    refine wpP_take (i := 30) (oi := ?oi182061) (v := ?v182061) ?hi182061 (by kernel_rfl) (by kernel_rfl) (by kernel_rfl) (by kernel_rfl) ?hQ182061 ?hy182061 (by assumption) ?rest182061
    case hi182061 => (simp only [List.getElem?_toArray, List.getElem?_cons_succ, List.getElem?_cons_zero]; exact rfl)
    case hQ182061 => exact fun _ _ _ h => h
    case hy182061 => (refine Or.inl ⟨by kernel_rfl, ?_⟩; intro w hSw; (try dsimp only at hSw); go_simp; try (with_reducible rfl))
    try simp only [Act.put, List.setIfInBounds_toArray, List.set_cons_zero, List.set_cons_succ]
    refine wpP_take (i := 31) (oi := ?oi182062) (v := ?v182062) ?hi182062 (by kernel_rfl) (by kernel_rfl) (by kernel_rfl) (by kernel_rfl) ?hQ182062 ?hy182062 (by assumption) ?rest182062
    case hi182062 => (simp only [List.getElem?_toArray, List.getElem?_cons_succ, List.getElem?_cons_zero]; exact rfl)
    case hQ182062 => exact fun _ _ _ h => h
    case hy182062 => (refine Or.inl ⟨by kernel_rfl, ?_⟩; intro w hSw; (try dsimp only at hSw); go_simp; try (with_reducible rfl))
    try simp only [Act.put, List.setIfInBounds_toArray, List.set_cons_zero, List.set_cons_succ]
    refine wpP_take (i := 32) (oi := ?oi182063) (v := ?v182063) ?hi182063 (by kernel_rfl) (by kernel_rfl) (by kernel_rfl) (by kernel_rfl) ?hQ182063 ?hy182063 (by assumption) ?rest182063
    case hi182063 => (simp only [List.getElem?_toArray, List.getElem?_cons_succ, List.getElem?_cons_zero]; exact rfl)
    case hQ182063 => exact fun _ _ _ h => h
    case hy182063 => (refine Or.inl ⟨by kernel_rfl, ?_⟩; intro w hSw; (try dsimp only at hSw); go_simp; try (with_reducible rfl))
    try simp only [Act.put, List.setIfInBounds_toArray, List.set_cons_zero, List.set_cons_succ]
    refine wpP_take (i := 33) (oi := ?oi182064) (v := ?v182064) ?hi182064 (by kernel_rfl) (by kernel_rfl) (by kernel_rfl) (by kernel_rfl) ?hQ182064 ?hy182064 (by assumption) ?rest182064
    case hi182064 => (simp only [List.getElem?_toArray, List.getElem?_cons_succ, List.getElem?_cons_zero]; exact rfl)
    case hQ182064 => exact fun _ _ _ h => h
    case hy182064 => (refine Or.inl ⟨by kernel_rfl, ?_⟩; intro w hSw; (try dsimp only at hSw); go_simp; try (with_reducible rfl))
    try simp only [Act.put, List.setIfInBounds_toArray, List.set_cons_zero, List.set_cons_succ]
    refine wpP_take (i := 34) (oi := ?oi182065) (v := ?v182065) ?hi182065 (by kernel_rfl) (by kernel_rfl) (by kernel_rfl) (by kernel_rfl) ?hQ182065 ?hy182065 (by assumption) ?rest182065
    case hi182065 => (simp only [List.getElem?_toArray, List.getElem?_cons_succ, List.getElem?_cons_zero]; exact rfl)
    case hQ182065 => exact fun _ _ _ h => h
    case hy182065 => (refine Or.inl ⟨by kernel_rfl, ?_⟩; intro w hSw; (try dsimp only at hSw); go_simp; try (with_reducible rfl))
    try simp only [Act.put, List.setIfInBounds_toArray, List.set_cons_zero, List.set_cons_succ]
    refine wpP_take (i := 35) (oi := ?oi182066) (v := ?v182066) ?hi182066 (by kernel_rfl) (by kernel_rfl) (by kernel_rfl) (by kernel_rfl) ?hQ182066 ?hy182066 (by assumption) ?rest182066
    case hi182066 => (simp only [List.getElem?_toArray, List.getElem?_cons_succ, List.getElem?_cons_zero]; exact rfl)
    case hQ182066 => exact fun _ _ _ h => h
    case hy182066 => (refine Or.inl ⟨by kernel_rfl, ?_⟩; intro w hSw; (try dsimp only at hSw); go_simp; try (with_reducible rfl))
    try simp only [Act.put, List.setIfInBounds_toArray, List.set_cons_zero, List.set_cons_succ]
    refine wpP_take (i := 36) (oi := ?oi182067) (v := ?v182067) ?hi182067 (by kernel_rfl) (by kernel_rfl) (by kernel_rfl) (by kernel_rfl) ?hQ182067 ?hy182067 (by assumption) ?rest182067
    case hi182067 => (simp only [List.getElem?_toArray, List.getElem?_cons_succ, List.getElem?_cons_zero]; exact rfl)
    case hQ182067 => exact fun _ _ _ h => h
    case hy182067 => (refine Or.inl ⟨by kernel_rfl, ?_⟩; intro w hSw; (try dsimp only at hSw); go_simp; try (with_reducible rfl))
    try simp only [Act.put, List.setIfInBounds_toArray, List.set_cons_zero, List.set_cons_succ]
    refine wpP_take (i := 38) (oi := ?oi182068) (v := ?v182068) ?hi182068 (by kernel_rfl) (by kernel_rfl) (by kernel_rfl) (by kernel_rfl) ?hQ182068 ?hy182068 (by assumption) ?rest182068
    case hi182068 => (simp only [List.getElem?_toArray, List.getElem?_cons_succ, List.getElem?_cons_zero]; exact rfl)
    case hQ182068 => exact fun _ _ _ h => h
    case hy182068 => (refine Or.inl ⟨by kernel_rfl, ?_⟩; intro w hSw; (try dsimp only at hSw); go_simp; try (with_reducible rfl))
    try simp only [Act.put, List.setIfInBounds_toArray, List.set_cons_zero, List.set_cons_succ]
    refine wpP_take (i := 39) (oi := ?oi182069) (v := ?v182069) ?hi182069 (by kernel_rfl) (by kernel_rfl) (by kernel_rfl) (by kernel_rfl) ?hQ182069 ?hy182069 (by assumption) ?rest182069
    case hi182069 => (simp only [List.getElem?_toArray, List.getElem?_cons_succ, List.getElem?_cons_zero]; exact rfl)
    case hQ182069 => exact fun _ _ _ h => h
    case hy182069 => (refine Or.inl ⟨by kernel_rfl, ?_⟩; intro w hSw; (try dsimp only at hSw); go_simp; try (with_reducible rfl))
    try simp only [Act.put, List.setIfInBounds_toArray, List.set_cons_zero, List.set_cons_succ]
    refine wpP_take (i := 40) (oi := ?oi182070) (v := ?v182070) ?hi182070 (by kernel_rfl) (by kernel_rfl) (by kernel_rfl) (by kernel_rfl) ?hQ182070 ?hy182070 (by assumption) ?rest182070
    case hi182070 => (simp only [List.getElem?_toArray, List.getElem?_cons_succ, List.getElem?_cons_zero]; exact rfl)
    case hQ182070 => exact fun _ _ _ h => h
    case hy182070 => (refine Or.inl ⟨by kernel_rfl, ?_⟩; intro w hSw; (try dsimp only at hSw); go_simp; try (with_reducible rfl))
    try simp only [Act.put, List.setIfInBounds_toArray, List.set_cons_zero, List.set_cons_succ]
    refine wpP_take (i := 41) (oi := ?oi182071) (v := ?v182071) ?hi182071 (by kernel_rfl) (by kernel_rfl) (by kernel_rfl) (by kernel_rfl) ?hQ182071 ?hy182071 (by assumption) ?rest182071
    case hi182071 => (simp only [List.getElem?_toArray, List.getElem?_cons_succ, List.getElem?_cons_zero]; exact rfl)
    case hQ182071 => exact fun _ _ _ h => h
    case hy182071 => (refine Or.inl ⟨by kernel_rfl, ?_⟩; intro w hSw; (try dsimp only at hSw); go_simp; try (with_reducible rfl))
    try simp only [Act.put, List.setIfInBounds_toArray, List.set_cons_zero, List.set_cons_succ]
    refine wpP_ready (rs := [37]) (by kernel_rfl) (by simp) ?_
    refine AllP.cons (o := ?o182072) ?ho182072 (fun K hK => ?_) AllP.nil
    case ho182072 => (simp only [List.getElem?_toArray, List.getElem?_cons_succ, List.getElem?_cons_zero]; exact rfl)
    go_simp
    go_at_call 50
    refine (hb3'.out _ _ _ (hHeld.2.2.1.out)).mono ?_
    rintro e w9 ⟨rfl, hb9⟩
    refine hK.out _ _ ?_ (fun hHeld => ?_)
    · exact ⟨Lib.hid (hHeld.1.out.below hb9), Lib.hid (hHeld.2.1.out.below hb9), Lib.hid (hHeld.2.2.1.out.below hb9), cell_keep hHeld.2.2.2.1 hb9, cell_keep hHeld.2.2.2.2.1 hb9, cell_keep hHeld.2.2.2.2.2.1 hb9, hHeld.2.2.2.2.2.2.trans (hb9.mono (hHeld.2.2.2.2.2.2.size))⟩
    clear hK K
    try simp only [Act.put, List.setIfInBounds_toArray, List.set_cons_zero, List.set_cons_succ]
    refine wpP_ready (rs := [42]) (by kernel_rfl) (by simp) ?_
    refine AllP.cons (o := ?o182073) ?ho182073 (fun K hK => ?_) AllP.nil
    case ho182073 => (simp only [List.getElem?_toArray, List.getElem?_cons_succ, List.getElem?_cons_zero]; exact rfl)
    go_simp
    go_at_call 50
    refine (hv3.out _ (hHeld.1.out)).mono ?_
    rintro e w9 ⟨rfl, hb9⟩
    refine hK.out _ _ ?_ (fun hHeld => ?_)
    · exact ⟨Lib.hid (hHeld.1.out.below hb9), Lib.hid (hHeld.2.1.out.below hb9), Lib.hid (hHeld.2.2.1.out.below hb9), cell_keep hHeld.2.2.2.1 hb9, cell_keep hHeld.2.2.2.2.1 hb9, cell_keep hHeld.2.2.2.2.2.1 hb9, hHeld.2.2.2.2.2.2.trans (hb9.mono (hHeld.2.2.2.2.2.2.size))⟩
    clear hK K
    try simp only [Act.put, List.setIfInBounds_toArray, List.set_cons_zero, List.set_cons_succ]
    refine wpP_take (i := 43) (oi := ?oi182074) (v := ?v182074) ?hi182074 (by kernel_rfl) (by kernel_rfl) (by kernel_rfl) (by kernel_rfl) ?hQ182074 ?hy182074 (by assumption) ?rest182074
    case hi182074 => (simp only [List.getElem?_toArray, List.getElem?_cons_succ, List.getElem?_cons_zero]; exact rfl)
    case hQ182074 => exact fun _ _ _ h => h
    case hy182074 => (refine Or.inl ⟨by kernel_rfl, ?_⟩; intro w hSw; (try dsimp only at hSw); go_simp; try (with_reducible rfl))
    try simp only [Act.put, List.setIfInBounds_toArray, List.set_cons_zero, List.set_cons_succ]
    refine wpP_take (i := 44) (oi := ?oi182075) (v := ?v182075) ?hi182075 (by kernel_rfl) (by kernel_rfl) (by kernel_rfl) (by kernel_rfl) ?hQ182075 ?hy182075 (by assumption) ?rest182075
    case hi182075 => (simp only [List.getElem?_toArray, List.getElem?_cons_succ, List.getElem?_cons_zero]; exact rfl)
    case hQ182075 => exact fun _ _ _ h => h
    case hy182075 => (refine Or.inl ⟨by kernel_rfl, ?_⟩; intro w hSw; (try dsimp only at hSw); go_simp; try (with_reducible rfl))
    try simp only [Act.put, List.setIfInBounds_toArray, List.set_cons_zero, List.set_cons_succ]
    refine wpP_take (i := 45) (oi := ?oi182076) (v := ?v182076) ?hi182076 (by kernel_rfl) (by kernel_rfl) (by kernel_rfl) (by kernel_rfl) ?hQ182076 ?hy182076 (by assumption) ?rest182076
    case hi182076 => (simp only [List.getElem?_toArray, List.getElem?_cons_succ, List.getElem?_cons_zero]; exact rfl)
    case hQ182076 => exact fun _ _ _ h => h
    case hy182076 => (refine Or.inl ⟨by kernel_rfl, ?_⟩; intro w hSw; (try dsimp only at hSw); go_simp; try (with_reducible rfl))
    try simp only [Act.put, List.setIfInBounds_toArray, List.set_cons_zero, List.set_cons_succ]
    refine wpP_done (by kernel_rfl) ?_ _
    all_goals
      go_wp2
      go_ret
      exact ⟨rfl, hHeld.2.2.2.2.2.2⟩
  · go_ret
    exact ⟨rfl, below_keep HB2.out (Nat.le_refl _) HB8.out⟩
end Go.Proofs.Ytacdohlhalnioaa
end

/- Contracts: bytes of a file, how many blocks where there is no such inode (the document's). -/
import Derived.Test.YtacdohlhalnioaaF8
import Derived.Test.YtacdohlhalnioaaE8
set_option linter.unusedVariables false
set_option maxRecDepth 20000
namespace Go.Proofs.Ytacdohlhalnioaa
open Go.RowKit
attribute [local go_sem] Oper.semAt_some

set_option maxHeartbeats 1000000 in
theorem rcount_no (A : Option Addr) (c : Nat) (v : Vol) (n : Int) (w : World) (hr : RS w A v) (h : getE v n ≠ 0) :
    Calls Try.prog 23 #[.slice A v.length c, .int .i64 n] w fun e w' => e = .returned (.int .i64 0) ∧ Below w.heap.size w w' := by
  have HP := fun w hr => rget18_no A c v n w hr h
  generalize getE v n = er at *
  have hbn : (er != 0) = true := by simpa using h
  have hb : (er == 0) = false := by simpa using h
  have HPl := Lib.hid HP
  have HRR := Lib.hid hr
  clear HP hr
  go_enter Try.func23, Try.ntmps23
  go_wp2_with (go_at_call 55; refine (HPl.out _ HRR.out).mono ?_; rintro e w1 ⟨rfl, hb1⟩; have B1 := Lib.hid hb1; clear hb1)
  go_ret
  exact ⟨rfl, B1.out.alloc B1.out.size _⟩
set_option maxHeartbeats 1000000 in
theorem rread_no (A : Option Addr) (c : Nat) (v : Vol) (n off sz : Int) (w : World) (hr : RS w A v) (h : getE v n ≠ 0) :
    Calls Try.prog 21 #[.slice A v.length c, .int .i64 n, .int .i64 off, .int .i64 sz] w fun e w' => e = .returned (.tuple #[.string (mk []), .int .i64 (getE v n)]) ∧ Below w.heap.size w w' := by
  have HP := fun w hr => rget18_no A c v n w hr h
  generalize getE v n = er at *
  have hbn : (er != 0) = true := by simpa using h
  have hb : (er == 0) = false := by simpa using h
  have HPl := Lib.hid HP
  have HRR := Lib.hid hr
  clear HP hr
  go_enter Try.func21, Try.ntmps21
  go_wp2_with (go_at_call 55; refine (HPl.out _ HRR.out).mono ?_; rintro e w1 ⟨rfl, hb1⟩; have B1 := Lib.hid hb1; clear hb1)
  go_ret2
  exact ⟨rfl, B1.out.alloc B1.out.size _⟩
set_option maxHeartbeats 1000000 in
theorem rread_neg (A : Option Addr) (c : Nat) (v : Vol) (n : Nat) (off sz : Int) (w : World) (hr : RS w A v) (hv : okV v = true) (h1 : 1 ≤ n) (h2 : n ≤ inosV v) (ho : off < 0 ∨ sz < 0) :
    Calls Try.prog 21 #[.slice A v.length c, .int .i64 n, .int .i64 off, .int .i64 sz] w fun e w' => e = .returned (.tuple #[.string (mk []), .int .i64 1]) ∧ Below w.heap.size w w' := by
  have HPl := Lib.hid (fun w hr => rget18_ok A c v n w hr hv h1 h2)
  have HRR := Lib.hid hr
  clear hr hv
  have ho' : off < 0 ∨ (0 ≤ off ∧ sz < 0) := by omega
  clear ho
  rcases ho' with ho | ⟨ho, hz⟩
  all_goals
    go_enter Try.func21, Try.ntmps21
    go_wp2_with (go_at_call 55; refine (HPl.out _ HRR.out).mono ?_; rintro e w1 ⟨rfl, hb1⟩; have B1 := Lib.hid hb1; clear hb1)
    go_ret2
    exact ⟨rfl, B1.out.alloc B1.out.size _⟩
theorem own_str {W : World} {base n : Nat} {u : Value} {l : Blk} (h : W.ownsRow base 5 1 u n (Lib.byteCells l)) (hn : l.length = n) : (convert 62 9 u).run Try.prog W = .ok (.string (mk l)) W := by
  rcases h.2 with ⟨rfl, h0⟩ | ⟨g, cap, cur, rfl, h1, h2, h3, h4, h5, h6⟩
  · have : l = [] := List.length_eq_zero_iff.1 (by omega)
    subst this
    exact str_u8_nil _ _ _ Try.underlying62 Try.underlying5 Try.underlying9 W 0 0
  · refine str_of_u8 W g 0 n cap l hn (fun j hj => ?_)
    have hc := h.cells (g := g) rfl j (.int .u8 (gb l j)) (by
      have : j < l.length := by omega
      simp [Lib.byteCells, gb, this])
    by_cases h0 : j = 0
    · subst h0; simpa [Addr.add] using hc
    · simpa [Addr.add, h0] using hc
theorem cat_get {d L : Nat} {v : Vol} {x : Ino} (hs : ∀ j, j < L → (bk v j).length = 128) (m i : Nat) (h : i < 128 * m) : (catTo d L v x (List.range m))[i]? = (blkAt d L v x (i / 128))[i % 128]? := by
  induction m with
  | zero => omega
  | succ m ih =>
    have hl := catTo_len (d := d) (x := x) hs (List.range m)
    rw [List.length_range] at hl
    rw [List.range_succ, show catTo d L v x (List.range m ++ [m]) = catTo d L v x (List.range m) ++ blkAt d L v x m from by simp [catTo]]
    by_cases h2 : i < 128 * m
    · rw [List.getElem?_append_left (by omega)]
      exact ih h2
    · rw [List.getElem?_append_right (by omega), hl, show i / 128 = m from by omega, show i - 128 * m = i % 128 from by omega]
theorem cont_byte {v : Vol} {n i : Nat} (hs : ∀ j, j < v.length → (bk v j).length = 128) (h : i < sizeX (inoV v n)) : (contV v n)[i]? = some (UInt8.ofNat (gb (blkAt (dataV v) v.length v (inoV v n) (i / 128)) (i % 128))) := by
  have hb := blkAt_len (d := dataV v) (x := inoV v n) hs (i / 128)
  rw [contV, List.getElem?_take_of_lt h, cat_get hs _ _ (by rw [needS]; omega), List.getElem?_eq_getElem (by omega)]
  congr 1
  apply UInt8.toNat_inj.1
  have : i % 128 < (blkAt (dataV v) v.length v (inoV v n) (i / 128)).length := by omega
  simp [gb, this]
theorem gb_zs (n i : Nat) : gb (zs n) i = 0 := by
  simp only [gb, zs, List.getD_eq_getElem?_getD, List.getElem?_replicate]
  split <;> rfl
theorem contV_length {v : Vol} {n : Nat} (hs : ∀ j, j < v.length → (bk v j).length = 128) : (contV v n).length = sizeX (inoV v n) := by
  have hl := catTo_len (d := dataV v) (x := inoV v n) hs (List.range (needS (sizeX (inoV v n))))
  rw [List.length_range] at hl
  rw [contV, List.length_take, hl, needS]
  omega
theorem byteCells_snoc (l : Blk) (b : Nat) (h : b < 256) : Lib.byteCells (l ++ [UInt8.ofNat b]) = Lib.byteCells l ++ [.int .u8 b] := by
  simp only [Lib.byteCells, List.map_append, List.map_cons, List.map_nil, UInt8.toNat_ofNat', Nat.mod_eq_of_lt h]
theorem read_step {v : Vol} {n off k : Nat} (hs : ∀ j, j < v.length → (bk v j).length = 128) (h : off + k < sizeX (inoV v n)) : readV v n off (k + 1) = readV v n off k ++ [UInt8.ofNat (gb (blkAt (dataV v) v.length v (inoV v n) ((off + k) / 128)) ((off + k) % 128))] := by
  rw [readV, List.take_add_one, List.getElem?_drop, cont_byte hs h]
  rfl
set_option maxHeartbeats 8000000 in
theorem rread_ok (A : Option Addr) (c : Nat) (v : Vol) (n off sz : Nat) (w : World) (hr : RS w A v) (hv : okV v = true) (h1 : 1 ≤ n) (h2 : n ≤ inosV v) (hob : (off : Int) ≤ 9223372036854775807) (hsb : (sz : Int) ≤ 9223372036854775807) :
    Calls Try.prog 21 #[.slice A v.length c, .int .i64 n, .int .i64 off, .int .i64 sz] w fun e w' => e = .returned (.tuple #[.string (mk (readV v n off sz)), .int .i64 0]) ∧ Below w.heap.size w w' := by
  obtain ⟨i0, hi0, hz0, hz1, hz2⟩ := info_parts (show (Try.prog.info? 5).map (fun i => (i.zero, i.size, i.bytes)) = some (some (.int .u8 0), 1, 1) by kernel_rfl)
  have HOK := okV_iff.1 hv
  have hlo := HOK.lo
  have hd0 : 0 < dataV v := by rw [dataV]; omega
  have HS := Lib.hid HOK.size
  have HV := Lib.hid hv
  have HR := Lib.hid hr
  obtain ⟨bA, oA, rfl, hbA, hc⟩ := hr.open_ (by omega)
  have HC := Lib.hid hc
  clear hv hr HOK hc
  have hget := Lib.hid (fun w hr => rget18_ok (some ⟨bA, oA, none⟩) c v n w hr HV.out h1 h2)
  have hdat := Lib.hid (fun w hr => rdata_ok (some ⟨bA, oA, none⟩) c v w hr HV.out)
  have hst := Lib.hid (fun k h => read_step (v := v) (n := n) (off := off) (k := k) HS.out h)
  have hcl := contV_length (v := v) (n := n) HS.out
  have hcl2 : ∀ k, off + k ≤ sizeX (inoV v n) → (readV v n off k).length = k := fun k h => by rw [readV, List.length_take, List.length_drop, hcl]; omega
  have hend : ∀ k, k ≤ sz → sizeX (inoV v n) ≤ off + k → readV v n off k = readV v n off sz := fun k h h3 => by
    rw [readV, readV, List.take_of_length_le (by rw [List.length_drop, hcl]; omega), List.take_of_length_le (by rw [List.length_drop, hcl]; omega)]
  have hr0 : readV v n off 0 = [] := by rw [readV, List.take_zero]
  have HCL2 := Lib.hid hcl2
  have HEND := Lib.hid hend
  clear hcl hcl2 hend
  obtain ⟨rd, hrd⟩ : ∃ rd, readV v n off = rd := ⟨_, rfl⟩
  rw [hrd] at hst HCL2 HEND hr0 ⊢
  clear hrd
  obtain ⟨d, hd⟩ : ∃ d, dataV v = d := ⟨_, rfl⟩
  obtain ⟨x, hX⟩ : ∃ x, inoV v n = x := ⟨_, rfl⟩
  rw [hd] at hd0 hdat hst
  rw [hX] at hget hst HCL2 HEND
  clear hd hX
  obtain ⟨s, hsx⟩ : ∃ s, sizeX x = s := ⟨_, rfl⟩
  have hs8 : s ≤ 8960 := by rw [← hsx, sizeX]; omega
  rw [hsx] at hst HCL2 HEND
  have HSX := Lib.hid hsx
  clear hsx
  have ho0 : (0 : Int) ≤ (off : Int) := by omega
  have hz0' : (0 : Int) ≤ (sz : Int) := by omega
  go_enter Try.func21, Try.ntmps21
  go_wp2_with (first
    | (go_at_call 55; refine (hget.out _ HR.out).mono ?_; rintro e w1 ⟨rfl, hb1⟩; have B1 := Lib.hid hb1; clear hb1; have B2 := Lib.hid ((B1.out.alloc B1.out.size (.cells #[.int .i64 ((x.kind : Nat) : Int), .int .i64 ((x.links : Nat) : Int), .int .i64 ((x.owner : Nat) : Int), .int .i64 ((x.size : Nat) : Int), .int .i64 ((x.d0 : Nat) : Int), .int .i64 ((x.d1 : Nat) : Int), .int .i64 ((x.d2 : Nat) : Int), .int .i64 ((x.d3 : Nat) : Int), .int .i64 ((x.d4 : Nat) : Int), .int .i64 ((x.d5 : Nat) : Int), .int .i64 ((x.ind : Nat) : Int), .int .i64 ((x.ext : Nat) : Int)] 45)).alloc (by have := B1.out.size; simp; omega) (.cells #[] 5)); have K1 := Lib.hid (heap_alloc_lt _ (.cells #[] 5) _ _ (blk_new w1 (.cells #[.int .i64 ((x.kind : Nat) : Int), .int .i64 ((x.links : Nat) : Int), .int .i64 ((x.owner : Nat) : Int), .int .i64 ((x.size : Nat) : Int), .int .i64 ((x.d0 : Nat) : Int), .int .i64 ((x.d1 : Nat) : Int), .int .i64 ((x.d2 : Nat) : Int), .int .i64 ((x.d3 : Nat) : Int), .int .i64 ((x.d4 : Nat) : Int), .int .i64 ((x.d5 : Nat) : Int), .int .i64 ((x.ind : Nat) : Int), .int .i64 ((x.ext : Nat) : Int)] 45))); have O1 := Lib.hid (own_new 5 (w1.alloc (.cells #[.int .i64 ((x.kind : Nat) : Int), .int .i64 ((x.links : Nat) : Int), .int .i64 ((x.owner : Nat) : Int), .int .i64 ((x.size : Nat) : Int), .int .i64 ((x.d0 : Nat) : Int), .int .i64 ((x.d1 : Nat) : Int), .int .i64 ((x.d2 : Nat) : Int), .int .i64 ((x.d3 : Nat) : Int), .int .i64 ((x.d4 : Nat) : Int), .int .i64 ((x.d5 : Nat) : Int), .int .i64 ((x.ind : Nat) : Int), .int .i64 ((x.ext : Nat) : Int)] 45))))
    | (go_at_call 56; refine (hdat.out _ (HR.out.below B2.out)).mono ?_; rintro e w2 ⟨rfl, hb2⟩; have B3 := Lib.hid (below_keep B2.out (Nat.le_refl _) hb2); have K2 := Lib.hid (blk_keep K1.out hb2); have O2 := Lib.hid (own_below O1.out hb2); clear hb2))
  have hs1 := B1.out.size
  have hsa : (w1.alloc (.cells #[.int .i64 ((x.kind : Nat) : Int), .int .i64 ((x.links : Nat) : Int), .int .i64 ((x.owner : Nat) : Int), .int .i64 ((x.size : Nat) : Int), .int .i64 ((x.d0 : Nat) : Int), .int .i64 ((x.d1 : Nat) : Int), .int .i64 ((x.d2 : Nat) : Int), .int .i64 ((x.d3 : Nat) : Int), .int .i64 ((x.d4 : Nat) : Int), .int .i64 ((x.d5 : Nat) : Int), .int .i64 ((x.ind : Nat) : Int), .int .i64 ((x.ext : Nat) : Int)] 45)).heap.size = w1.heap.size + 1 := by simp
  rw [hsa] at O2
  generalize w1.heap.size = q at *
  have hwq : w.heap.size ≤ q := by omega
  have hownq : ∀ r, (Value.slice (some ⟨q + 1, 0, none⟩) 0 0).ownBlock = some r → r ≠ q := fun r e => by
    have e2 : some (q + 1) = some r := e
    have := Option.some.inj e2
    omega
  have HOQ := Lib.hid hownq
  clear hownq
  have HCL3 : ∀ k, off + k ≤ s ∨ k = 0 → (rd k).length = k := fun k h => by
    rcases h with h | rfl
    · exact HCL2.out k h
    · rw [hr0]; rfl
  have HLen := Lib.hid HCL3
  clear HCL3
  have hini : Hid (w2.ownsRow w.heap.size 5 1 (.slice (some ⟨q + 1, 0, none⟩) 0 0) 0 (Lib.byteCells (rd 0)) ∧ (∀ r, (Value.slice (some ⟨q + 1, 0, none⟩) 0 0).ownBlock = some r → r ≠ q)) := ⟨by rw [hr0]; exact own_base O2.out (by omega), HOQ.out⟩
  clear hr0
  go_loopw [12, 14] (fun uv iv wr => ∃ k i : Nat, off + k = i ∧ (i ≤ s ∨ k = 0) ∧ k ≤ sz ∧ iv = .int .i64 i ∧ Hid (wr.ownsRow w.heap.size 5 1 uv k (Lib.byteCells (rd k)) ∧ (∀ g, uv.ownBlock = some g → g ≠ q)) ∧ Hid (wr.heap[q]? = some (.cells #[.int .i64 ((x.kind : Nat) : Int), .int .i64 ((x.links : Nat) : Int), .int .i64 ((x.owner : Nat) : Int), .int .i64 ((x.size : Nat) : Int), .int .i64 ((x.d0 : Nat) : Int), .int .i64 ((x.d1 : Nat) : Int), .int .i64 ((x.d2 : Nat) : Int), .int .i64 ((x.d3 : Nat) : Int), .int .i64 ((x.d4 : Nat) : Int), .int .i64 ((x.d5 : Nat) : Int), .int .i64 ((x.ind : Nat) : Int), .int .i64 ((x.ext : Nat) : Int)] 45 (0, 0))) ∧ Hid (Below w.heap.size w wr)) (fun _ iv _ => s - (intOf iv).toNat)
  case atStart => exact ⟨0, off, rfl, .inr rfl, by omega, rfl, hini, K2, B3⟩
  case round =>
    obtain ⟨k, i, hi, his, hk, rfl, ho, hq, hB⟩ := hrel
    obtain ⟨ua, uc, rfl⟩ := own_slice ho.out.1
    obtain ⟨q0, q1, q2, q3, q4, q5, q6, q7, q8, q9, q10, q11⟩ := cells12 hq.out
    by_cases hlt : i < s
    · have hii : (i : Int) < (s : Int) := by omega
      by_cases hks : k < sz
      · have hki : (k : Int) < (sz : Int) := by omega
        obtain ⟨kk, hkk⟩ : ∃ kk, i / 128 = kk := ⟨_, rfl⟩
        obtain ⟨r, hr⟩ : ∃ r, i % 128 = r := ⟨_, rfl⟩
        have hkq : (i : Int) / 128 = (kk : Int) := by omega
        have hkr : (i : Int).tmod 128 = (r : Int) := by rw [Int.tmod_eq_emod_of_nonneg (by omega)]; omega
        have hwk : IntKind.i64.wrap (kk : Int) = (kk : Int) := by simp [IntKind.wrap, IntKind.bits, IntKind.signed]; omega
        have hwr : IntKind.i64.wrap (r : Int) = (r : Int) := by simp [IntKind.wrap, IntKind.bits, IntKind.signed]; omega
        have hwi : IntKind.i64.wrap ((i : Int) + 1) = (i : Int) + 1 := by simp [IntKind.wrap, IntKind.bits, IntKind.signed]; omega
        have hr128 : r < 128 := by omega
        have hsn := hst.out k (by omega)
        rw [hi, hkk, hr] at hsn
        obtain ⟨b, hb⟩ : ∃ b, atN d v.length v x kk = b := ⟨_, rfl⟩
        have HBB := Lib.hid hb
        have hbe : blkAt d v.length v x kk = if b = 0 then zs 128 else bk v b := by rw [blkAt, hb]
        have hbl : b ≠ 0 → d ≤ b ∧ b < v.length := by rw [← hb]; exact atN_lt
        rw [hbe] at hsn
        have HSN := Lib.hid hsn
        clear hb hsn hbe
        have hfin : ∀ (w4 w5 : World) (u' : Value) (y : Nat), y < 256 → rd (k + 1) = rd k ++ [UInt8.ofNat y] → Below wr.heap.size wr w4 → w5.ownsRow w.heap.size 5 1 u' (k + 1) (Lib.byteCells (rd k) ++ [.int .u8 y]) → (w4.alloc (.cells #[.int .u8 y] 5)).grownBy w5 (Value.slice ua k uc).ownBlock → (u'.ownBlock = (Value.slice ua k uc).ownBlock ∨ u'.ownBlock = some (w4.alloc (.cells #[.int .u8 y] 5)).heap.size) →
            Hid (w5.ownsRow w.heap.size 5 1 u' (k + 1) (Lib.byteCells (rd (k + 1))) ∧ (∀ g, u'.ownBlock = some g → g ≠ q)) ∧ Hid (w5.heap[q]? = some (.cells #[.int .i64 ((x.kind : Nat) : Int), .int .i64 ((x.links : Nat) : Int), .int .i64 ((x.owner : Nat) : Int), .int .i64 ((x.size : Nat) : Int), .int .i64 ((x.d0 : Nat) : Int), .int .i64 ((x.d1 : Nat) : Int), .int .i64 ((x.d2 : Nat) : Int), .int .i64 ((x.d3 : Nat) : Int), .int .i64 ((x.d4 : Nat) : Int), .int .i64 ((x.d5 : Nat) : Int), .int .i64 ((x.ind : Nat) : Int), .int .i64 ((x.ext : Nat) : Int)] 45 (0, 0))) ∧ Hid (Below w.heap.size w w5) := by
          intro w4 w5 u' y hy hsn hb4 hown hgr how
          have hsz4 := hb4.size
          have hro : ∀ r, (Value.slice ua k uc).ownBlock = some r → w.heap.size ≤ r := fun r e => (ho.out.1.lt r e).1
          have hlr := blk_lt hq.out
          have hBs := hB.out.size
          refine ⟨⟨?_, fun r e => ?_⟩, ?_, ?_⟩
          · rw [hsn, byteCells_snoc _ _ hy]
            exact hown
          · rcases how with h | h
            · rw [h] at e
              exact ho.out.2 r e
            · rw [h] at e
              have := Option.some.inj e
              simp at this
              omega
          · exact (hgr.block q (by simp; omega) (fun e => ho.out.2 q e.symm rfl)).trans (blk_keep hq.out (hb4.alloc hb4.size _))
          · exact (below_keep hB.out (by omega) (hb4.alloc hb4.size _)).grown hgr (by simp; omega) (fun r e => hro r e)
        have HFin := Lib.hid hfin
        clear hfin
        by_cases h0 : b = 0
        · subst h0
          go_wp2_with (first
            | (go_at_call 58; refine (rsize_ok x _).mono ?_; rw [HSX.out]; rintro e w3 ⟨rfl, hb3⟩; have hq3 := blk_keep hq.out hb3; obtain ⟨q0, q1, q2, q3, q4, q5, q6, q7, q8, q9, q10, q11⟩ := cells12 hq3; have B5 := Lib.hid hb3; clear hb3 hq3)
            | (go_at_call 59; refine (rat_ok _ c d v.length v x kk _ ((HR.out.below hB.out).below B5.out) rfl (by omega) hd0 HS.out).mono ?_; rw [HBB.out]; rintro e w4 ⟨rfl, hb4⟩; have B4 := Lib.hid (below_keep B5.out (Nat.le_refl _) hb4); clear hb4)
            | (at_builtin; refine wpList_append_own_at _ rfl _ _ 62 rfl w.heap.size 5 i0 (.int .u8 0) 1 1 Try.underlying62 hi0 hz0 hz1 hz2 rfl (by decide) _ k _ rfl (own_below ho.out.1 (B4.out.alloc B4.out.size _)) ⟨w4.heap.size, 0, none⟩ 1 1 [.int .u8 _] rfl rfl (cell_one_new _ _ _) (by simp [Value.oneCell']) (by simp only [maxLen]; omega) (by omega) (by have := B4.out.size; have := hB.out.size; simp; omega) ?_; intro u' w5 hown' hgrow _ howb; have EG := Lib.hid hgrow; have EO := Lib.hid hown'; have EB := Lib.hid howb; clear hgrow hown' howb))
          obtain ⟨z1, z2, z3⟩ := HFin.out w4 w5 u' 0 (by omega) (by rw [HSN.out, if_pos trivial, gb_zs]) B4.out EO.out EG.out EB.out
          exact ⟨⟨k + 1, i + 1, by omega, by omega, by omega, by go_num, z1, z2, z3⟩, by simp only [intOf]; omega⟩
        · have hbl2 := hbl h0
          have hbp : (0 : Int) < (b : Int) := by omega
          have hbv : (b : Int) < (v.length : Int) := by omega
          obtain ⟨B, hBk⟩ : ∃ B, bk v b = B := ⟨_, rfl⟩
          have hB128 := HS.out b hbl2.2
          have hcb := HC.out b hbl2.2
          rw [hBk] at hB128 hcb
          have hsn2 := HSN.out
          rw [if_neg h0, hBk] at hsn2
          have HSN2 := Lib.hid hsn2
          have HCB := Lib.hid hcb
          clear hcb hsn2 hBk hbl
          have hr1 : (r : Int) < 128 := by omega
          go_wp2_with (first
            | (go_at_call 58; refine (rsize_ok x _).mono ?_; rw [HSX.out]; rintro e w3 ⟨rfl, hb3⟩; have hq3 := blk_keep hq.out hb3; obtain ⟨q0, q1, q2, q3, q4, q5, q6, q7, q8, q9, q10, q11⟩ := cells12 hq3; have B5 := Lib.hid hb3; clear hb3 hq3)
            | (go_at_call 59; refine (rat_ok _ c d v.length v x kk _ ((HR.out.below hB.out).below B5.out) rfl (by omega) hd0 HS.out).mono ?_; rw [HBB.out]; rintro e w4 ⟨rfl, hb4⟩; have B4 := Lib.hid (below_keep B5.out (Nat.le_refl _) hb4); have cb4 := cell_keep HCB.out (below_keep hB.out (Nat.le_refl _) B4.out); clear hb4)
            | (at_builtin; refine wpList_append_own_at _ rfl _ _ 62 rfl w.heap.size 5 i0 (.int .u8 0) 1 1 Try.underlying62 hi0 hz0 hz1 hz2 rfl (by decide) _ k _ rfl (own_below ho.out.1 (B4.out.alloc B4.out.size _)) ⟨w4.heap.size, 0, none⟩ 1 1 [.int .u8 _] rfl rfl (cell_one_new _ _ _) (by simp [Value.oneCell']) (by simp only [maxLen]; omega) (by omega) (by have := B4.out.size; have := hB.out.size; simp; omega) ?_; intro u' w5 hown' hgrow _ howb; have EG := Lib.hid hgrow; have EO := Lib.hid hown'; have EB := Lib.hid howb; clear hgrow hown' howb))
          obtain ⟨z1, z2, z3⟩ := HFin.out w4 w5 u' (gb B r) (gb_lt _ _) HSN2.out B4.out EO.out EG.out EB.out
          exact ⟨⟨k + 1, i + 1, by omega, by omega, by omega, by go_num, z1, z2, z3⟩, by simp only [intOf]; omega⟩
      · have hki : ¬ (k : Int) < (sz : Int) := by omega
        obtain rfl : k = sz := by omega
        go_wp2_with (go_at_call 58; refine (rsize_ok x _).mono ?_; rw [HSX.out]; rintro e w3 ⟨rfl, hb3⟩; have hcv := own_str (own_below ho.out.1 hb3) (HLen.out k (by omega)); have B5 := Lib.hid hb3; clear hb3)
        go_ret2
        exact ⟨rfl, below_keep hB.out (Nat.le_refl _) B5.out⟩
    · have hii : ¬ (i : Int) < (s : Int) := by omega
      have he := HEND.out k hk (by omega)
      have HE := Lib.hid he
      clear he
      go_wp2_with (go_at_call 58; refine (rsize_ok x _).mono ?_; rw [HSX.out]; rintro e w3 ⟨rfl, hb3⟩; have hcv := own_str (own_below ho.out.1 hb3) (HLen.out k (by omega)); have B5 := Lib.hid hb3; clear hb3)
      go_ret2
      exact ⟨by rw [HE.out]; rfl, below_keep hB.out (Nat.le_refl _) B5.out⟩
end Go.Proofs.Ytacdohlhalnioaa

/- Joined: XP0 XP1 XW1 XW2 XW3 XW4 XW5 XW6. -/
import Derived.Test.YtacdohlhalnioaaJ4
import Derived.Test.YtacdohlhalnioaaJ3
import Derived.Test.YtacdohlhalnioaaJ5
import Derived.Lib.ConvBytes
/- The pure law: free blocks, blocks that are taken, placed, written. -/
section
set_option linter.unusedSimpArgs false
set_option linter.unusedVariables false
set_option maxRecDepth 20000
namespace Go.Proofs.Ytacdohlhalnioaa
open Go.RowKit

/-- The first block that isn't taken. -/
def freeB (v : Vol) : Option Nat := (List.range v.length).find? fun i => decide (dataV v ≤ i) && !bit (bk v 2) i
theorem freeB_some {v : Vol} {i : Nat} (h : freeB v = some i) : dataV v ≤ i ∧ i < v.length ∧ bit (bk v 2) i = false ∧ ∀ j, dataV v ≤ j → j < i → bit (bk v 2) j = true := by
  obtain ⟨h1, h2, h3⟩ := List.find?_range_eq_some.1 h
  simp only [Bool.and_eq_true, decide_eq_true_eq, Bool.not_eq_true', List.mem_range] at h1 h2
  refine ⟨h1.1, h2, h1.2, fun j hj hji => ?_⟩
  have := h3 j hji
  simpa [hj] using this
theorem freeB_none {v : Vol} (h : freeB v = none) : ∀ j, dataV v ≤ j → j < v.length → bit (bk v 2) j = true := by
  intro j h1 h2
  have := List.find?_range_eq_none.1 h j h2
  simpa [h1] using this
/-- The volume where a block is taken. -/
def tookV (v : Vol) (i : Nat) : Vol := (v.set 2 (turn (bk v 2) i)).set i (zs 128)
theorem tookV_length (v : Vol) (i : Nat) : (tookV v i).length = v.length := by simp [tookV]

theorem gb_set (m : Blk) (i j n : Nat) (hn : n < 256) (hi : i < m.length) : gb (m.set i (UInt8.ofNat n)) j = if j = i then n else gb m j := by
  unfold gb
  by_cases h : j = i
  · subst h
    rw [if_pos rfl, List.getD_eq_getElem?_getD, List.getElem?_set_self hi]
    simp
    omega
  · rw [if_neg h, List.getD_eq_getElem?_getD, List.getElem?_set_ne (by omega), ← List.getD_eq_getElem?_getD]
theorem testBit_gb (a q : Nat) : (a / 2 ^ q % 2 == 1) = a.testBit q := by
  rw [Nat.testBit_eq_decide_div_mod_eq]
  rfl
theorem bit_turn (m : Blk) (i j : Nat) (hm : m.length = 128) (hi : i < 1024) : bit (turn m i) j = if j = i then !bit m i else bit m j := by
  have hx : gb m (i / 8) ^^^ 2 ^ (i % 8) < 256 := xor_lt _ _ (gb_lt _ _) (by omega)
  have hn : ((2 : Nat) ^ (i % 8)).testBit (j % 8) = decide (i % 8 = j % 8) := Nat.testBit_two_pow
  have hn2 : ((2 : Nat) ^ (i % 8)).testBit (i % 8) = true := by simp
  rw [bit, turn, gb_set _ _ _ _ hx (by omega), testBit_gb]
  by_cases h : j = i
  · subst h
    rw [if_pos rfl, if_pos rfl, Nat.testBit_xor, hn2, bit, testBit_gb]
    simp
  · rw [if_neg h, bit, testBit_gb]
    by_cases h8 : j / 8 = i / 8
    · rw [if_pos h8, Nat.testBit_xor, hn, decide_eq_false (by omega), h8]
      simp
    · rw [if_neg h8]
/-- A volume of the same form. -/
structure Kept (v v' : Vol) : Prop where
  ok : okV v' = true
  len : v'.length = v.length
  ino : inosV v' = inosV v
  dat : dataV v' = dataV v
theorem Kept.rfl {v : Vol} (h : okV v = true) : Kept v v := ⟨h, Eq.refl _, Eq.refl _, Eq.refl _⟩
theorem Kept.trans {a b c : Vol} (h : Kept a b) (h2 : Kept b c) : Kept a c := ⟨h2.ok, h2.len.trans h.len, h2.ino.trans h.ino, h2.dat.trans h.dat⟩
theorem dataV_pos (v : Vol) : 2 < dataV v := by rw [dataV]; omega
theorem kept_set {v : Vol} (hv : okV v = true) {b : Nat} {s : Blk} (h1 : 2 < b) (hs : s.length = 128) : Kept v (v.set b s) := by
  have H := okV_iff.1 hv
  have e0 : bk (v.set b s) 0 = bk v 0 := bk_set_other _ _ _ _ (by omega)
  have e2 : bk (v.set b s) 2 = bk v 2 := bk_set_other _ _ _ _ (by omega)
  have ei : inosV (v.set b s) = inosV v := by rw [inosV, e0, inosV]
  have ed : dataV (v.set b s) = dataV v := by rw [dataV, ei, dataV]
  have el : (v.set b s).length = v.length := by simp
  refine ⟨okV_iff.2 ⟨fun j hj => ?_, ?_, ?_, ?_, ?_, ?_, ?_, ?_⟩, el, ei, ed⟩
  · by_cases h : b = j
    · subst h; rw [bk_set_same _ _ _ (by simpa using hj)]; exact hs
    · rw [bk_set_other _ _ _ _ h]; exact H.size j (by simpa using hj)
  · rw [el]; exact H.lo
  · rw [el]; exact H.hi
  · rw [ei]; exact H.ilo
  · rw [ei]; exact H.ihi
  · rw [el, ei]; exact H.data
  · rw [e0, el, ei]; exact H.head
  · rw [e2, ed, el]; exact H.map
theorem kept_tookV {v : Vol} (hv : okV v = true) {i : Nat} (h1 : dataV v ≤ i) (h2 : i < v.length) : Kept v (tookV v i) := by
  have H := okV_iff.1 hv
  have hd := dataV_pos v
  have hlo := H.lo
  have hhi := H.hi
  have h128 := H.size 2 (by omega)
  have e0 : bk (v.set 2 (turn (bk v 2) i)) 0 = bk v 0 := bk_set_other _ _ _ _ (by omega)
  have e2 : bk (v.set 2 (turn (bk v 2) i)) 2 = turn (bk v 2) i := bk_set_same _ _ _ (by omega)
  have ei : inosV (v.set 2 (turn (bk v 2) i)) = inosV v := by rw [inosV, e0, inosV]
  have ed : dataV (v.set 2 (turn (bk v 2) i)) = dataV v := by rw [dataV, ei, dataV]
  have el : (v.set 2 (turn (bk v 2) i)).length = v.length := by simp
  have hk : Kept v (v.set 2 (turn (bk v 2) i)) := by
    refine ⟨okV_iff.2 ⟨fun j hj => ?_, ?_, ?_, ?_, ?_, ?_, ?_, ?_⟩, el, ei, ed⟩
    · by_cases h : 2 = j
      · subst h; rw [e2]; simpa using h128
      · rw [bk_set_other _ _ _ _ h]; exact H.size j (by simpa using hj)
    · rw [el]; exact H.lo
    · rw [el]; exact H.hi
    · rw [ei]; exact H.ilo
    · rw [ei]; exact H.ihi
    · rw [el, ei]; exact H.data
    · rw [e0, el, ei]; exact H.head
    · rw [e2, ed, el, okmap_iff]
      intro j hj
      obtain ⟨m1, m2⟩ := (okmap_iff.1 H.map) j hj
      rw [bit_turn _ _ _ h128 (by omega)]
      refine ⟨fun h => ?_, fun h => ?_⟩
      · rw [if_neg (by omega)]; exact m1 h
      · rw [if_neg (by omega)]; exact m2 h
  exact hk.trans (kept_set hk.ok (by omega) (by simp))

/-- An inode whose k-th block is another one. -/
def Ino.setD (x : Ino) (k b : Nat) : Ino := { x with d0 := if k = 0 then b else x.d0, d1 := if k = 1 then b else x.d1, d2 := if k = 2 then b else x.d2, d3 := if k = 3 then b else x.d3, d4 := if k = 4 then b else x.d4, d5 := if k = 5 then b else x.d5 }
def Ino.setI (x : Ino) (b : Nat) : Ino := { x with ind := b }
def Ino.setS (x : Ino) (s : Nat) : Ino := { x with size := s }
/-- A number in two bytes of a block. -/
def put2 (s : Blk) (a n : Nat) : Blk := (s.set a (UInt8.ofNat n)).set (a + 1) (UInt8.ofNat (n / 256))
@[simp] theorem put2_length (s : Blk) (a n : Nat) : (put2 s a n).length = s.length := by simp [put2]
def nameV (d : Nat) (v : Vol) (x : Ino) (k b : Nat) : Vol := if k < 6 then v else if goodN d v.length x.ind = true then v.set x.ind (put2 (bk v x.ind) (2 * (k - 6)) b) else v
def nameX (x : Ino) (k b : Nat) : Ino := if k < 6 then x.setD k b else x
/-- The block of k, taken, if there is a hole: its number, the volume, the inode. -/
def placeV (v : Vol) (x : Ino) (k : Nat) : Option (Nat × Vol × Ino) :=
  if atN (dataV v) v.length v x k = 0 then
    (if k < 6 ∨ goodN (dataV v) v.length x.ind = true then
      (match freeB v with
      | none => none
      | some b => some (b, nameV (dataV v) (tookV v b) x k b, nameX x k b))
    else
      (match freeB v with
      | none => none
      | some i => match freeB (tookV v i) with
        | none => none
        | some b => some (b, nameV (dataV v) (tookV (tookV v i) b) (x.setI i) k b, nameX (x.setI i) k b)))
  else some (atN (dataV v) v.length v x k, v, x)
theorem fitI_iff {x : Ino} : fitI x ↔ x.kind < 256 ∧ x.links < 65536 ∧ x.owner < 256 ∧ x.size < 4294967296 ∧ x.d0 < 65536 ∧ x.d1 < 65536 ∧ x.d2 < 65536 ∧ x.d3 < 65536 ∧ x.d4 < 65536 ∧ x.d5 < 65536 ∧ x.ind < 65536 ∧ x.ext < 65536 := by
  constructor
  · intro h
    exact ⟨h 0, h 2, h 1, h 3, h 4, h 5, h 6, h 7, h 8, h 9, h 10, h 11⟩
  · rintro ⟨h0, h1, h2, h3, h4, h5, h6, h7, h8, h9, h10, h11⟩ k
    obtain ⟨k, hk⟩ := k
    rcases (by omega : k = 0 ∨ k = 1 ∨ k = 2 ∨ k = 3 ∨ k = 4 ∨ k = 5 ∨ k = 6 ∨ k = 7 ∨ k = 8 ∨ k = 9 ∨ k = 10 ∨ k = 11) with rfl | rfl | rfl | rfl | rfl | rfl | rfl | rfl | rfl | rfl | rfl | rfl
    · exact h0
    · exact h2
    · exact h1
    · exact h3
    · exact h4
    · exact h5
    · exact h6
    · exact h7
    · exact h8
    · exact h9
    · exact h10
    · exact h11
theorem inoOf_fit (s : Blk) : fitI (inoOf s) := by
  have a := gb_lt s
  have b := w2_lt s
  exact fitI_iff.2 ⟨a 0, b 2, a 1, by have := b 4; have := b 6; simp only [inoOf]; omega, b 8, b 10, b 12, b 14, b 16, b 18, b 20, b 22⟩
theorem inoV_fit (v : Vol) (n : Nat) : fitI (inoV v n) := inoOf_fit _
theorem inoV_size (v : Vol) (n : Nat) : (inoV v n).size < 4294967296 := (fitI_iff.1 (inoV_fit v n)).2.2.2.1
theorem setD_fit {x : Ino} {k b : Nat} (h : fitI x) (hb : b < 65536) : fitI (x.setD k b) := by
  obtain ⟨h0, h1, h2, h3, h4, h5, h6, h7, h8, h9, h10, h11⟩ := fitI_iff.1 h
  refine fitI_iff.2 ⟨h0, h1, h2, h3, ?_, ?_, ?_, ?_, ?_, ?_, h10, h11⟩
  all_goals
    simp only [Ino.setD]
    split <;> assumption
theorem setI_fit {x : Ino} {b : Nat} (h : fitI x) (hb : b < 65536) : fitI (x.setI b) := by
  obtain ⟨h0, h1, h2, h3, h4, h5, h6, h7, h8, h9, h10, h11⟩ := fitI_iff.1 h
  exact fitI_iff.2 ⟨h0, h1, h2, h3, h4, h5, h6, h7, h8, h9, hb, h11⟩
theorem setS_fit {x : Ino} {b : Nat} (h : fitI x) (hb : b < 4294967296) : fitI (x.setS b) := by
  obtain ⟨h0, h1, h2, h3, h4, h5, h6, h7, h8, h9, h10, h11⟩ := fitI_iff.1 h
  exact fitI_iff.2 ⟨h0, h1, h2, hb, h4, h5, h6, h7, h8, h9, h10, h11⟩
theorem nameX_fit {x : Ino} {k b : Nat} (h : fitI x) (hb : b < 65536) : fitI (nameX x k b) := by
  unfold nameX
  split
  · exact setD_fit h hb
  · exact h
theorem nameX_size (x : Ino) (k b : Nat) : (nameX x k b).size = x.size := by
  unfold nameX
  split <;> rfl
theorem goodN_iff {d L b : Nat} : goodN d L b = true ↔ d ≤ b ∧ b < L := by simp [goodN]
theorem kept_nameV {v : Vol} {x : Ino} {k b d : Nat} (hv : okV v = true) (hd : d = dataV v) : Kept v (nameV d v x k b) := by
  have := dataV_pos v
  unfold nameV
  split
  · exact .rfl hv
  · split
    · rename_i h
      have h2 := goodN_iff.1 h
      exact kept_set hv (by omega) (by rw [put2_length]; exact (okV_iff.1 hv).size _ h2.2)
    · exact .rfl hv
theorem atN_lt' {d L : Nat} {v : Vol} {x : Ino} {k : Nat} (h : atN d L v x k ≠ 0) : d ≤ atN d L v x k ∧ atN d L v x k < L := by
  unfold atN at h ⊢
  split at h
  · rename_i hg
    rw [if_pos hg]
    exact goodN_iff.1 hg
  · exact absurd rfl h
/-- What is placed is a block of the data; the volume keeps its form. -/
theorem place_facts {v : Vol} {x : Ino} {k : Nat} (hv : okV v = true) (hx : fitI x) {b : Nat} {v' : Vol} {x' : Ino} (h : placeV v x k = some (b, v', x')) : dataV v ≤ b ∧ b < v.length ∧ Kept v v' ∧ fitI x' ∧ x'.size = x.size := by
  have hhi := (okV_iff.1 hv).hi
  unfold placeV at h
  split at h
  · split at h
    · split at h
      · cases h
      · rename_i i hi
        cases h
        obtain ⟨f1, f2, _⟩ := freeB_some hi
        have hk := kept_tookV hv f1 f2
        exact ⟨f1, f2, hk.trans (kept_nameV hk.ok hk.dat.symm), nameX_fit hx (by omega), nameX_size _ _ _⟩
    · split at h
      · cases h
      · rename_i i hi
        split at h
        · cases h
        · rename_i j hj
          cases h
          obtain ⟨f1, f2, _⟩ := freeB_some hi
          have hk := kept_tookV hv f1 f2
          obtain ⟨g1, g2, _⟩ := freeB_some hj
          have hk2 := kept_tookV hk.ok g1 g2
          rw [hk.dat] at g1
          rw [hk.len] at g2
          exact ⟨g1, g2, (hk.trans hk2).trans (kept_nameV hk2.ok (hk.trans hk2).dat.symm), nameX_fit (setI_fit hx (by omega)) (by omega), nameX_size _ _ _⟩
  · rename_i hne
    cases h
    obtain ⟨h1, h2⟩ := atN_lt' hne
    exact ⟨h1, h2, .rfl hv, hx, rfl⟩

/-- A block with a piece in it. -/
def over (s : Blk) (o : Nat) (p : Blk) : Blk := s.take o ++ p ++ s.drop (o + p.length)
theorem over_length (s : Blk) (o : Nat) (p : Blk) (h : o + p.length ≤ s.length) : (over s o p).length = s.length := by
  simp [over]
  omega
/-- Bytes are written, block by block. -/
def wrV : Nat → Vol → Ino → Nat → Blk → Option (Vol × Ino)
  | 0, v, x, _, _ => some (v, x)
  | m + 1, v, x, a, t =>
    if t = [] then some (v, x) else
    match placeV v x (a / 128) with
    | none => none
    | some (b, v1, x1) => wrV m (v1.set b (over (bk v1 b) (a % 128) (t.take (128 - a % 128)))) x1 (a + (t.take (128 - a % 128)).length) (t.drop (t.take (128 - a % 128)).length)
theorem wrV_nil (m : Nat) (v : Vol) (x : Ino) (a : Nat) : wrV m v x a [] = some (v, x) := by
  cases m with
  | zero => rfl
  | succ m => rw [wrV, if_pos rfl]
/-- What a write answers, of an inode that is: the error, the volume. -/
def writeV (v : Vol) (n off : Nat) (t : Blk) : Int × Vol :=
  if 8960 < off ∨ 8960 < off + t.length then (6, []) else
  if t = [] then (0, v) else
  match wrV t.length v (inoV v n) off t with
  | none => (10, [])
  | some (v', x') => (0, putV v' n (if min x'.size 8960 < off + t.length then x'.setS (off + t.length) else x'))
end Go.Proofs.Ytacdohlhalnioaa
end

/- The pure law: the chapter's example, reckoned out. -/
section
set_option linter.unusedSimpArgs false
set_option linter.unusedVariables false
set_option maxRecDepth 200000
namespace Go.Proofs.Ytacdohlhalnioaa
open Go.RowKit

def fx1 : Vol := fmtV 24 4
def fx2 : Vol := putV fx1 1 (freshI 0)
def fxR : Option (Vol × Ino) := wrV 1 fx2 (inoV fx2 1) 300 [120]
def fx3 : Vol := match fxR with
  | none => []
  | some (v', x') => putV v' 1 (if min x'.size 8960 < 301 then x'.setS 301 else x')
theorem fx_facts : okV fx1 = true ∧ (inoV fx1 1).kind = 0 ∧ inosV fx1 = 4 ∧ fx1.length = 24 ∧ okV fx2 = true ∧ inosV fx2 = 4 ∧ fx2.length = 24 ∧ fxR.isSome = true ∧ okV fx3 = true ∧ inosV fx3 = 4 ∧ fx3.length = 24 ∧ blocksV fx3 1 = [-1, -1, 5] ∧ countV fx3 1 = 1 := by
  decide +kernel
end Go.Proofs.Ytacdohlhalnioaa
end

/- Contract: an open file takes a block (or none is left). -/
section
set_option linter.unusedSimpArgs false
set_option linter.unusedVariables false
set_option maxRecDepth 20000
namespace Go.Proofs.Ytacdohlhalnioaa
open Go.RowKit
attribute [local go_sem] Oper.semAt_some

theorem tookV_same (v : Vol) (b : Nat) : (tookV v b).set b (zs 128) = tookV v b := by simp [tookV]
set_option maxHeartbeats 4000000 in
theorem xtake_ok (F g c L I d n : Nat) (v : Vol) (x : Ino) (b : Nat) (w : World) (hf : FileAt w F g c L I d n v x) (hv : okV v = true) (hb : freeB v = some b) :
    Calls Try.prog 110 #[.pointer (some ⟨F, 0, none⟩)] w fun e w' => e = .returned (.tuple #[.int .i64 b, .int .i64 0]) ∧ ∃ g' c', FileAt w' F g' c' L I d n (tookV v b) x ∧ w.heap.size ≤ g' ∧ ∀ B, B ≤ F → Below B w w' := by
  obtain rfl := hf.len
  obtain ⟨f1, f2, f3, f4⟩ := freeB_some hb
  have H := okV_iff.1 hv
  have hlo := H.lo
  have hhi := H.hi
  have hlt := tookV_length v b
  have hbi : (b : Int) < (v.length : Nat) := by omega
  have htk := Lib.hid (fun w A c hr => take_ok A c v b w hr hv f1 f2 f3 f4)
  rw [show (v.set 2 (turn (bk v 2) b)).set b (zs 128) = tookV v b from rfl] at htk
  have c0 : w.cell? ⟨F, 0, none⟩ = some (.slice (some ⟨g, 0, none⟩) v.length c) := by rw [cell_at hf.blk]; rfl
  have hcl := Lib.hid (fun A c w hr => clone_ok A c v.length (tookV v b) w hr hlt (by omega))
  have HF := Lib.hid hf
  have HFL := hf.lt
  have HT := Lib.hid hlt
  have HS := Lib.hid (tookV_same v b)
  generalize tookV v b = V at *
  clear hf hv H f3 f4 hb hlt
  go_enter Try.func110, Try.ntmps110
  go_wp2_with (first
    | (go_at_call 129; refine (htk.out _ _ _ (HF.out.vol.rs (by omega))).mono ?_; rintro e w1 ⟨g1, c1, rfl, hg1, hgs1, hb1⟩; have HB1 := Lib.hid hb1; clear hb1)
    | (go_at_call 66; refine (hcl.out _ _ _ (hg1.rs (by rw [HT.out]; omega))).mono ?_; rintro e w2 ⟨g2, cc, rfl, hg2, hgs2, hb2⟩; have hq := blk_keep (blk_keep HF.out.blk HB1.out) hb2; have hfr := free_of hq 0; have c2 : w2.cell? ⟨F, 0, none⟩ = some (.slice (some ⟨g, 0, none⟩) v.length c) := by rw [cell_at hq]; rfl
       have HQ := Lib.hid hq; have HB2 := Lib.hid hb2; have HG2 := Lib.hid hg2; clear hb2 hq hg2))
  have hs1 := HB1.out.size
  have hne : g2 ≠ F := by omega
  have hq3 := blk_set HQ.out 0 (.slice (some ⟨g2, 0, none⟩) v.length cc)
  simp only [List.setIfInBounds_toArray, List.set_cons_zero] at hq3
  have hg3 : VS (w2.setCell ⟨F, 0, none⟩ (.slice (some ⟨g2, 0, none⟩) v.length cc)) g2 V := HG2.out.other hne
  have hB3 : ∀ B, B ≤ F → Below B w (w2.setCell ⟨F, 0, none⟩ (.slice (some ⟨g2, 0, none⟩) v.length cc)) := fun B hB => below_set (below_keep (HB1.out.mono (by omega)) (by omega) HB2.out) hB
  generalize w2.setCell ⟨F, 0, none⟩ (.slice (some ⟨g2, 0, none⟩) v.length cc) = W3 at *
  have c3 : W3.cell? ⟨F, 0, none⟩ = some (.slice (some ⟨g2, 0, none⟩) v.length cc) := by rw [cell_at hq3]; rfl
  have HQ3 := Lib.hid hq3
  have HG3 := Lib.hid hg3
  have HB3 := Lib.hid hB3
  clear hq3 hg3 hB3
  refine region_P (fun w' => w'.cell? ⟨F, 0, none⟩ = some (.slice (some ⟨g2, 0, none⟩) v.length cc)) [7] (by kernel_rfl) ?_ (fun hHeld => ?_)
  · exact c3
  refine wpP_take (i := 0) (oi := ?oi10001) (v := ?v10001) ?hi10001 (by kernel_rfl) (by kernel_rfl) (by kernel_rfl) (by kernel_rfl) ?hQ10001 ?hy10001 (by assumption) ?rest10001
  case hi10001 => (simp only [List.getElem?_toArray, List.getElem?_cons_succ, List.getElem?_cons_zero]; exact rfl)
  case hQ10001 => exact fun _ _ _ h => h
  case hy10001 => (refine Or.inl ⟨by kernel_rfl, ?_⟩; intro w hSw; (try dsimp only at hSw); go_simp; try (with_reducible rfl))
  try simp only [Act.put, List.setIfInBounds_toArray, List.set_cons_zero, List.set_cons_succ]
  refine wpP_take (i := 1) (oi := ?oi10002) (v := ?v10002) ?hi10002 (by kernel_rfl) (by kernel_rfl) (by kernel_rfl) (by kernel_rfl) ?hQ10002 ?hy10002 (by assumption) ?rest10002
  case hi10002 => (simp only [List.getElem?_toArray, List.getElem?_cons_succ, List.getElem?_cons_zero]; exact rfl)
  case hQ10002 => exact fun _ _ _ h => h
  case hy10002 => (refine Or.inl ⟨by kernel_rfl, ?_⟩; intro w hSw; (try dsimp only at hSw); go_simp; try (with_reducible rfl))
  try simp only [Act.put, List.setIfInBounds_toArray, List.set_cons_zero, List.set_cons_succ]
  refine wpP_take (i := 2) (oi := ?oi10003) (v := ?v10003) ?hi10003 (by kernel_rfl) (by kernel_rfl) (by kernel_rfl) (by kernel_rfl) ?hQ10003 ?hy10003 (by assumption) ?rest10003
  case hi10003 => (simp only [List.getElem?_toArray, List.getElem?_cons_succ, List.getElem?_cons_zero]; exact rfl)
  case hQ10003 => exact fun _ _ _ h => h
  case hy10003 => (refine Or.inl ⟨by kernel_rfl, ?_⟩; intro w hSw; (try dsimp only at hSw); go_simp; try (with_reducible rfl))
  try simp only [Act.put, List.setIfInBounds_toArray, List.set_cons_zero, List.set_cons_succ]
  refine wpP_take (i := 3) (oi := ?oi10004) (v := ?v10004) ?hi10004 (by kernel_rfl) (by kernel_rfl) (by kernel_rfl) (by kernel_rfl) ?hQ10004 ?hy10004 (by assumption) ?rest10004
  case hi10004 => (simp only [List.getElem?_toArray, List.getElem?_cons_succ, List.getElem?_cons_zero]; exact rfl)
  case hQ10004 => exact fun _ _ _ h => h
  case hy10004 => (refine Or.inl ⟨by kernel_rfl, ?_⟩; intro w hSw; (try dsimp only at hSw); go_simp; try (with_reducible rfl))
  try simp only [Act.put, List.setIfInBounds_toArray, List.set_cons_zero, List.set_cons_succ]
  refine wpP_take (i := 4) (oi := ?oi10005) (v := ?v10005) ?hi10005 (by kernel_rfl) (by kernel_rfl) (by kernel_rfl) (by kernel_rfl) ?hQ10005 ?hy10005 (by assumption) ?rest10005
  case hi10005 => (simp only [List.getElem?_toArray, List.getElem?_cons_succ, List.getElem?_cons_zero]; exact rfl)
  case hQ10005 => exact fun _ _ _ h => h
  case hy10005 => (refine Or.inl ⟨by kernel_rfl, ?_⟩; intro w hSw; (try dsimp only at hSw); go_simp; try (with_reducible rfl))
  try simp only [Act.put, List.setIfInBounds_toArray, List.set_cons_zero, List.set_cons_succ]
  refine wpP_ready (rs := [5]) (by kernel_rfl) (by simp) ?_
  refine AllP.cons (o := ?o10006) ?ho10006 (fun K hK => ?_) AllP.nil
  case ho10006 => (simp only [List.getElem?_toArray, List.getElem?_cons_succ, List.getElem?_cons_zero]; exact rfl)
  go_simp
  go_at_call 61
  refine (repeat0_ok 128 _ (by omega)).mono ?_
  rintro e w4 ⟨rfl, hb4⟩
  have k4 : Below W3.heap.size W3 w4 := below_und hb4
  have d1 := (HG3.out.keep k4).cell b (by rw [HT.out]; omega)
  have d2 := (HG3.out.keep k4).free b
  refine hK.out _ _ ?_ (fun hHeld => ?_)
  · exact (cell_keep hHeld hb4)
  clear hK K
  try simp only [Act.put, List.setIfInBounds_toArray, List.set_cons_zero, List.set_cons_succ]
  refine wpP_take (i := 6) (oi := ?oi10007) (v := ?v10007) ?hi10007 (by kernel_rfl) (by kernel_rfl) (by kernel_rfl) (by kernel_rfl) ?hQ10007 ?hy10007 (by assumption) ?rest10007
  case hi10007 => (simp only [List.getElem?_toArray, List.getElem?_cons_succ, List.getElem?_cons_zero]; exact rfl)
  case hQ10007 => exact fun _ _ _ h => h
  case hy10007 => (refine Or.inl ⟨by kernel_rfl, ?_⟩; intro w hSw; (try dsimp only at hSw); go_simp; try (with_reducible rfl))
  try simp only [Act.put, List.setIfInBounds_toArray, List.set_cons_zero, List.set_cons_succ]
  refine wpP_ready (rs := [7]) (by kernel_rfl) (by simp) ?_
  refine AllP.last (o := ?o10008) ?ho10008 (by kernel_rfl) (fun K hK => ?_) AllP.nil
  case ho10008 => (simp only [List.getElem?_toArray, List.getElem?_cons_succ, List.getElem?_cons_zero]; exact rfl)
  go_simp
  refine hK.out _ _ ?_
  clear hK K
  try simp only [Act.put, List.setIfInBounds_toArray, List.set_cons_zero, List.set_cons_succ]
  refine wpP_done (by kernel_rfl) ?_ _
  go_wp2
  go_ret2
  have hq4 := blk_keep HQ3.out k4
  have hg4 := HG3.out.keep k4
  refine ⟨rfl, g2, cc, ⟨?_, ?_, HT.out, by omega⟩, by omega, fun B hB => below_set (below_keep (HB3.out B hB) (by omega) k4) (by omega)⟩
  · exact blk_set_other hq4 (by omega) _ _
  · have := hg4.set b (zs 128) (by rw [HT.out]; omega)
    rw [HS.out] at this
    exact this
set_option maxHeartbeats 1000000 in
theorem xtake_full (F g c L I d n : Nat) (v : Vol) (x : Ino) (w : World) (hf : FileAt w F g c L I d n v x) (hv : okV v = true) (hb : freeB v = none) :
    Calls Try.prog 110 #[.pointer (some ⟨F, 0, none⟩)] w fun e w' => e = .returned (.tuple #[.int .i64 0, .int .i64 10]) ∧ Below w.heap.size w w' := by
  obtain rfl := hf.len
  have f4 := freeB_none hb
  have hhi := (okV_iff.1 hv).hi
  have htk := Lib.hid (fun w A c hr => take_full A c v w hr hv f4)
  have c0 : w.cell? ⟨F, 0, none⟩ = some (.slice (some ⟨g, 0, none⟩) v.length c) := by rw [cell_at hf.blk]; rfl
  have HF := Lib.hid hf
  clear hf hv f4 hb
  go_enter Try.func110, Try.ntmps110
  go_wp2_with (go_at_call 129; refine (htk.out _ _ _ (HF.out.vol.rs (by omega))).mono ?_; rintro e w1 ⟨rfl, hb1⟩)
  go_ret2
  exact ⟨rfl, hb1⟩
end Go.Proofs.Ytacdohlhalnioaa
end

/- Contract: an open file has a number name a block. -/
section
set_option linter.unusedSimpArgs false
set_option linter.unusedVariables false
set_option maxRecDepth 20000
namespace Go.Proofs.Ytacdohlhalnioaa
open Go.RowKit
attribute [local go_sem] Oper.semAt_some

theorem fcells_set (F g c L I d n k b : Nat) (x : Ino) (hk : k < 6) :
    (#[.slice (some ⟨g, 0, none⟩) L c, .int .i64 L, .int .i64 I, .int .i64 1, .int .i64 2, .int .i64 3, .int .i64 d, .int .i64 n, .int .i64 ((x.kind : Nat) : Int), .int .i64 ((x.links : Nat) : Int), .int .i64 ((x.owner : Nat) : Int), .int .i64 ((x.size : Nat) : Int), .int .i64 ((x.d0 : Nat) : Int), .int .i64 ((x.d1 : Nat) : Int), .int .i64 ((x.d2 : Nat) : Int), .int .i64 ((x.d3 : Nat) : Int), .int .i64 ((x.d4 : Nat) : Int), .int .i64 ((x.d5 : Nat) : Int), .int .i64 ((x.ind : Nat) : Int), .int .i64 ((x.ext : Nat) : Int)] : Array Value).setIfInBounds (12 + k) (.int .i64 b) = #[.slice (some ⟨g, 0, none⟩) L c, .int .i64 L, .int .i64 I, .int .i64 1, .int .i64 2, .int .i64 3, .int .i64 d, .int .i64 n, .int .i64 (((x.setD k b).kind : Nat) : Int), .int .i64 (((x.setD k b).links : Nat) : Int), .int .i64 (((x.setD k b).owner : Nat) : Int), .int .i64 (((x.setD k b).size : Nat) : Int), .int .i64 (((x.setD k b).d0 : Nat) : Int), .int .i64 (((x.setD k b).d1 : Nat) : Int), .int .i64 (((x.setD k b).d2 : Nat) : Int), .int .i64 (((x.setD k b).d3 : Nat) : Int), .int .i64 (((x.setD k b).d4 : Nat) : Int), .int .i64 (((x.setD k b).d5 : Nat) : Int), .int .i64 (((x.setD k b).ind : Nat) : Int), .int .i64 (((x.setD k b).ext : Nat) : Int)] := by
  rcases (by omega : k = 0 ∨ k = 1 ∨ k = 2 ∨ k = 3 ∨ k = 4 ∨ k = 5) with rfl | rfl | rfl | rfl | rfl | rfl <;> rfl
theorem wrap_u8 (b : Nat) : IntKind.u8.wrap (b : Int) = ((b % 256 : Nat) : Int) := by simp [IntKind.wrap, IntKind.bits, IntKind.signed]
theorem bytes_conv (s : Blk) (W : World) : (convert 9 62 (.string (mk s))).run Try.prog W = .ok (.slice (some ⟨W.heap.size, 0, none⟩) s.length (grownCap W s.length 0 5)) (Lib.bytesWorld W 5 (mk s)) := by
  have h := Lib.run_convert_string_bytes (P := Try.prog) W 9 62 5 (mk s) Try.underlying9 Try.underlying62 Try.underlying5
  rw [mk_size] at h
  exact h
theorem bytes_cell (s : Blk) (W : World) (j : Nat) (hj : j < s.length) : (Lib.bytesWorld W 5 (mk s)).cell? ⟨W.heap.size, j, none⟩ = some (.int .u8 (gb s j)) := by
  rw [Lib.bytesWorld_cell W _ (mk s) j (by simpa using hj)]
  rfl
theorem bytes_free (s : Blk) (W : World) (j : Nat) (hj : j < s.length) : (Lib.bytesWorld W 5 (mk s)).frozen? ⟨W.heap.size, j, none⟩ = false := by
  have hsz : s.length ≤ (Lib.bytesCells W 5 (mk s)).size := by simp [Lib.bytesCells]
  simp only [World.frozen?, Lib.bytesWorld_at_new]
  simp
  omega
theorem bytes_below (s : Blk) (W : World) : Below W.heap.size W (Lib.bytesWorld W 5 (mk s)) :=
  ⟨rfl, rfl, rfl, by rw [Lib.bytesWorld_size]; omega, fun j hj => Lib.bytesWorld_at_old W _ _ j hj⟩

set_option maxHeartbeats 4000000 in
theorem xname_near (F g c L I d n : Nat) (v : Vol) (x : Ino) (k b : Nat) (w : World) (hf : FileAt w F g c L I d n v x) (hk : k < 6) :
    Calls Try.prog 111 #[.pointer (some ⟨F, 0, none⟩), .int .i64 k, .int .i64 b] w fun e w' => e = .returned (.tuple #[]) ∧ FileAt w' F g c L I d n v (x.setD k b) ∧ ∀ B, B ≤ F → Below B w w' := by
  have hfr := free_of hf.blk (12 + k)
  have hset := blk_set hf.blk (12 + k) (.int .i64 b)
  rw [fcells_set F g c L I d n k b x hk] at hset
  have hc : w.cell? ⟨F, 12 + k, none⟩ = some (.int .i64 ((x.list.getD (4 + k) 0 : Nat) : Int)) := by
    rw [cell_at hf.blk]
    rcases (by omega : k = 0 ∨ k = 1 ∨ k = 2 ∨ k = 3 ∨ k = 4 ∨ k = 5) with rfl | rfl | rfl | rfl | rfl | rfl <;> rfl
  have HF := Lib.hid hf
  have HSET := Lib.hid hset
  have hki : (k : Int) < 6 := by omega
  generalize x.list.getD (4 + k) 0 = b0 at *
  clear hf hset
  go_enter Try.func111, Try.ntmps111
  go_wp2
  refine bodyPost_ret (v := .tuple #[]) (by simp [results, Try.results111, go_sem]) rfl ?_
  refine ⟨rfl, ⟨HSET.out, HF.out.vol.other (Ne.symm HF.out.ne), HF.out.len, HF.out.ne⟩, fun B hB => below_set (Below.refl _ _) hB⟩
theorem gb_set' (m : Blk) (i j n : Nat) (hi : i < m.length) : gb (m.set i (UInt8.ofNat n)) j = if j = i then n % 256 else gb m j := by
  unfold gb
  by_cases h : j = i
  · subst h
    rw [if_pos rfl, List.getD_eq_getElem?_getD, List.getElem?_set_self hi]
    simp
  · rw [if_neg h, List.getD_eq_getElem?_getD, List.getElem?_set_ne (by omega), ← List.getD_eq_getElem?_getD]
set_option maxHeartbeats 4000000 in
theorem xname_far (F g c L I d n : Nat) (v : Vol) (x : Ino) (k b : Nat) (w : World) (hf : FileAt w F g c L I d n v x) (hk : 6 ≤ k) (hk2 : k < 70) (hb : b < 256) (hg : goodN d L x.ind = true) (hs : ∀ j, j < L → (bk v j).length = 128) (hL : L ≤ 223) :
    Calls Try.prog 111 #[.pointer (some ⟨F, 0, none⟩), .int .i64 k, .int .i64 b] w fun e w' => e = .returned (.tuple #[]) ∧ FileAt w' F g c L I d n (v.set x.ind (put2 (bk v x.ind) (2 * (k - 6)) b)) x ∧ ∀ B, B ≤ F → B ≤ g → Below B w w' := by
  have HF := Lib.hid hf
  obtain rfl := hf.len
  have hg2 := goodN_iff.1 hg
  have hsi := hs x.ind (by omega)
  have hci := hf.vol.cell x.ind (by omega)
  have hfi := hf.vol.free x.ind
  have c0 : w.cell? ⟨F, 0, none⟩ = some (.slice (some ⟨g, 0, none⟩) v.length c) := by rw [cell_at hf.blk]; rfl
  have c18 : w.cell? ⟨F, 18, none⟩ = some (.int .i64 x.ind) := by rw [cell_at hf.blk]; rfl
  have hgood := Lib.hid (fun w' (hf' : FileAt w' F g c v.length I d n v x) => good_ok F g c v.length I d n v x x.ind w' hf')
  rw [hg] at hgood
  obtain ⟨m, hm⟩ : ∃ m, 2 * (k - 6) = m := ⟨_, rfl⟩
  have hm2 : m + 1 < 128 := by omega
  have hfar := Lib.hid (fun w' => far_ok k w' hk hk2)
  rw [hm] at hfar ⊢
  obtain ⟨s, hsb⟩ : ∃ s, bk v x.ind = s := ⟨_, rfl⟩
  rw [hsb] at hsi hci ⊢
  have HSB := Lib.hid hsb
  have hi1 : (x.ind : Int) < (v.length : Int) := by omega
  have hki : ¬ ((k : Int) < 6) := by omega
  have hcv := bytes_conv s
  have HCV := Lib.hid hcv
  clear hf hs hg hsb
  go_enter Try.func111, Try.ntmps111
  go_wp2_with (go_at_call 63; refine (hgood.out _ HF.out).mono ?_; rintro e w3 ⟨rfl, rfl⟩)
  refine region_P (fun w' => w'.cell? ⟨F, 0, none⟩ = some (.slice (some ⟨g, 0, none⟩) v.length c) ∧ w'.cell? ⟨F, 18, none⟩ = some (.int .i64 x.ind) ∧ w'.cell? ⟨g, x.ind, none⟩ = some (.string (mk s))) [] (by kernel_rfl) ?_ (fun hHeld => ?_)
  · exact ⟨c0, c18, hci⟩
  refine wpP_take (i := 0) (oi := ?oi56001) (v := ?v56001) ?hi56001 (by kernel_rfl) (by kernel_rfl) (by kernel_rfl) (by kernel_rfl) ?hQ56001 ?hy56001 (by assumption) ?rest56001
  case hi56001 => (simp only [List.getElem?_toArray, List.getElem?_cons_succ, List.getElem?_cons_zero]; exact rfl)
  case hQ56001 => exact fun _ _ _ h => h
  case hy56001 => (refine Or.inl ⟨by kernel_rfl, ?_⟩; intro w hSw; (try dsimp only at hSw); go_simp; try (with_reducible rfl))
  try simp only [Act.put, List.setIfInBounds_toArray, List.set_cons_zero, List.set_cons_succ]
  refine wpP_take (i := 1) (oi := ?oi56002) (v := ?v56002) ?hi56002 (by kernel_rfl) (by kernel_rfl) (by kernel_rfl) (by kernel_rfl) ?hQ56002 ?hy56002 (by assumption) ?rest56002
  case hi56002 => (simp only [List.getElem?_toArray, List.getElem?_cons_succ, List.getElem?_cons_zero]; exact rfl)
  case hQ56002 => exact fun _ _ _ h => h
  case hy56002 => (refine Or.inl ⟨by kernel_rfl, ?_⟩; intro w hSw; (try dsimp only at hSw); go_simp; try (with_reducible rfl))
  try simp only [Act.put, List.setIfInBounds_toArray, List.set_cons_zero, List.set_cons_succ]
  refine wpP_take (i := 2) (oi := ?oi56003) (v := ?v56003) ?hi56003 (by kernel_rfl) (by kernel_rfl) (by kernel_rfl) (by kernel_rfl) ?hQ56003 ?hy56003 (by assumption) ?rest56003
  case hi56003 => (simp only [List.getElem?_toArray, List.getElem?_cons_succ, List.getElem?_cons_zero]; exact rfl)
  case hQ56003 => exact fun _ _ _ h => h
  case hy56003 => (refine Or.inl ⟨by kernel_rfl, ?_⟩; intro w hSw; (try dsimp only at hSw); go_simp; try (with_reducible rfl))
  try simp only [Act.put, List.setIfInBounds_toArray, List.set_cons_zero, List.set_cons_succ]
  refine wpP_take (i := 3) (oi := ?oi56004) (v := ?v56004) ?hi56004 (by kernel_rfl) (by kernel_rfl) (by kernel_rfl) (by kernel_rfl) ?hQ56004 ?hy56004 (by assumption) ?rest56004
  case hi56004 => (simp only [List.getElem?_toArray, List.getElem?_cons_succ, List.getElem?_cons_zero]; exact rfl)
  case hQ56004 => exact fun _ _ _ h => h
  case hy56004 => (refine Or.inl ⟨by kernel_rfl, ?_⟩; intro w hSw; (try dsimp only at hSw); go_simp; try (with_reducible rfl))
  try simp only [Act.put, List.setIfInBounds_toArray, List.set_cons_zero, List.set_cons_succ]
  refine wpP_take (i := 4) (oi := ?oi56005) (v := ?v56005) ?hi56005 (by kernel_rfl) (by kernel_rfl) (by kernel_rfl) (by kernel_rfl) ?hQ56005 ?hy56005 (by assumption) ?rest56005
  case hi56005 => (simp only [List.getElem?_toArray, List.getElem?_cons_succ, List.getElem?_cons_zero]; exact rfl)
  case hQ56005 => exact fun _ _ _ h => h
  case hy56005 => (refine Or.inl ⟨by kernel_rfl, ?_⟩; intro w hSw; (try dsimp only at hSw); go_simp; try (with_reducible rfl))
  try simp only [Act.put, List.setIfInBounds_toArray, List.set_cons_zero, List.set_cons_succ]
  refine wpP_take (i := 5) (oi := ?oi56006) (v := ?v56006) ?hi56006 (by kernel_rfl) (by kernel_rfl) (by kernel_rfl) (by kernel_rfl) ?hQ56006 ?hy56006 (by assumption) ?rest56006
  case hi56006 => (simp only [List.getElem?_toArray, List.getElem?_cons_succ, List.getElem?_cons_zero]; exact rfl)
  case hQ56006 => exact fun _ _ _ h => h
  case hy56006 => (refine Or.inl ⟨by kernel_rfl, ?_⟩; intro w hSw; (try dsimp only at hSw); go_simp; try (with_reducible rfl))
  try simp only [Act.put, List.setIfInBounds_toArray, List.set_cons_zero, List.set_cons_succ]
  refine wpP_take (i := 6) (oi := ?oi56007) (v := ?v56007) ?hi56007 (by kernel_rfl) (by kernel_rfl) (by kernel_rfl) (by kernel_rfl) ?hQ56007 ?hy56007 (by assumption) ?rest56007
  case hi56007 => (simp only [List.getElem?_toArray, List.getElem?_cons_succ, List.getElem?_cons_zero]; exact rfl)
  case hQ56007 => exact fun _ _ _ h => h
  case hy56007 => (refine Or.inl ⟨by kernel_rfl, ?_⟩; intro w hSw; (try dsimp only at hSw); go_simp; try (with_reducible rfl))
  try simp only [Act.put, List.setIfInBounds_toArray, List.set_cons_zero, List.set_cons_succ]
  refine wpP_take (i := 7) (oi := ?oi56008) (v := ?v56008) ?hi56008 (by kernel_rfl) (by kernel_rfl) (by kernel_rfl) (by kernel_rfl) ?hQ56008 ?hy56008 (by assumption) ?rest56008
  case hi56008 => (simp only [List.getElem?_toArray, List.getElem?_cons_succ, List.getElem?_cons_zero]; exact rfl)
  case hQ56008 => exact fun _ _ _ h => h
  case hy56008 => (refine Or.inl ⟨by kernel_rfl, ?_⟩; intro w hSw; (try dsimp only at hSw); go_simp; try (with_reducible rfl))
  try simp only [Act.put, List.setIfInBounds_toArray, List.set_cons_zero, List.set_cons_succ]
  refine wpP_take (i := 8) (oi := ?oi56009) (v := ?v56009) ?hi56009 (by kernel_rfl) (by kernel_rfl) (by kernel_rfl) (by kernel_rfl) ?hQ56009 ?hy56009 (by assumption) ?rest56009
  case hi56009 => (simp only [List.getElem?_toArray, List.getElem?_cons_succ, List.getElem?_cons_zero]; exact rfl)
  case hQ56009 => exact fun _ _ _ h => h
  case hy56009 => (refine Or.inl ⟨by kernel_rfl, ?_⟩; intro w hSw; (try dsimp only at hSw); go_simp; try (with_reducible rfl))
  try simp only [Act.put, List.setIfInBounds_toArray, List.set_cons_zero, List.set_cons_succ]
  refine wpP_take (i := 9) (oi := ?oi56010) (v := ?v56010) ?hi56010 (by kernel_rfl) (by kernel_rfl) (by kernel_rfl) (by kernel_rfl) ?hQ56010 ?hy56010 (by assumption) ?rest56010
  case hi56010 => (simp only [List.getElem?_toArray, List.getElem?_cons_succ, List.getElem?_cons_zero]; exact rfl)
  case hQ56010 => exact fun _ _ _ h => h
  case hy56010 => (refine Or.inl ⟨by kernel_rfl, ?_⟩; intro w hSw; (try dsimp only at hSw); go_simp; try (with_reducible rfl))
  try simp only [Act.put, List.setIfInBounds_toArray, List.set_cons_zero, List.set_cons_succ]
  refine wpP_take (i := 10) (oi := ?oi56011) (v := ?v56011) ?hi56011 (by kernel_rfl) (by kernel_rfl) (by kernel_rfl) (by kernel_rfl) ?hQ56011 ?hy56011 (by assumption) ?rest56011
  case hi56011 => (simp only [List.getElem?_toArray, List.getElem?_cons_succ, List.getElem?_cons_zero]; exact rfl)
  case hQ56011 => exact fun _ _ _ h => h
  case hy56011 => (refine Or.inl ⟨by kernel_rfl, ?_⟩; intro w hSw; (try dsimp only at hSw); go_simp; try (with_reducible rfl))
  try simp only [Act.put, List.setIfInBounds_toArray, List.set_cons_zero, List.set_cons_succ]
  refine wpP_ready (rs := [11]) (by kernel_rfl) (by simp) ?_
  refine AllP.cons (o := ?o56012) ?ho56012 (fun K hK => ?_) AllP.nil
  case ho56012 => (simp only [List.getElem?_toArray, List.getElem?_cons_succ, List.getElem?_cons_zero]; exact rfl)
  go_simp
  refine hK.out _ _ ?_ (fun hHeld => ?_)
  · exact ⟨cell_keep hHeld.1 (bytes_below s _), cell_keep hHeld.2.1 (bytes_below s _), cell_keep hHeld.2.2 (bytes_below s _)⟩
  clear hK K
  try simp only [Act.put, List.setIfInBounds_toArray, List.set_cons_zero, List.set_cons_succ]
  refine wpP_take (i := 12) (oi := ?oi56013) (v := ?v56013) ?hi56013 (by kernel_rfl) (by kernel_rfl) (by kernel_rfl) (by kernel_rfl) ?hQ56013 ?hy56013 (by assumption) ?rest56013
  case hi56013 => (simp only [List.getElem?_toArray, List.getElem?_cons_succ, List.getElem?_cons_zero]; exact rfl)
  case hQ56013 => exact fun _ _ _ h => h
  case hy56013 => (refine Or.inl ⟨by kernel_rfl, ?_⟩; intro w hSw; (try dsimp only at hSw); go_simp; try (with_reducible rfl))
  try simp only [Act.put, List.setIfInBounds_toArray, List.set_cons_zero, List.set_cons_succ]
  refine wpP_done (by kernel_rfl) ?_ _
  have hblk := Lib.bytesWorld_at_new w.drew 5 (mk s)
  have hcells := fun j hj => bytes_cell s w.drew j hj
  have hfrees := fun j hj => bytes_free s w.drew j hj
  have hbB : Below w.heap.size w (Lib.bytesWorld w.drew 5 (mk s)) := below_und (bytes_below s _)
  obtain ⟨W1, hW1⟩ : ∃ W1, Lib.bytesWorld w.drew 5 (mk s) = W1 := ⟨_, rfl⟩
  obtain ⟨cp, hcp⟩ : ∃ cp, grownCap w.drew 128 0 5 = cp := ⟨_, rfl⟩
  obtain ⟨C, hC⟩ : ∃ C, Lib.bytesCells w.drew 5 (mk s) = C := ⟨_, rfl⟩
  rw [hW1] at hblk hcells hfrees hbB ⊢
  rw [hcp]
  rw [hC] at hblk
  have e0 : w.drew.heap.size = w.heap.size := rfl
  rw [e0] at hblk hcells hfrees
  obtain ⟨q, hq⟩ : ∃ q, w.heap.size = q := ⟨_, rfl⟩
  rw [hq] at hblk hcells hfrees hbB ⊢
  rw [hsi] at hcells hfrees
  have cm := hcells m (by omega)
  have fm := hfrees m (by omega)
  have cm1 : (W1.setCell ⟨q, m, none⟩ (.int .u8 b)).cell? ⟨q, m + 1, none⟩ = some (.int .u8 (gb s (m + 1) : Nat)) := by
    have := hcells (m + 1) (by omega)
    rw [cell_at hblk] at this
    rw [cell_at (blk_set hblk m _), Array.getElem?_setIfInBounds_ne (by omega)]
    exact this
  have fm1 : (W1.setCell ⟨q, m, none⟩ (.int .u8 b)).frozen? ⟨q, m + 1, none⟩ = false := by
    have := hfrees (m + 1) (by omega)
    simp only [World.frozen?, hblk] at this
    simp only [World.frozen?, blk_set hblk m _]
    exact this
  have HC := Lib.hid hcells
  have HBL := Lib.hid hblk
  have HBB := Lib.hid hbB
  have hwb : IntKind.u8.wrap (b : Int) = (b : Int) := by rw [wrap_u8]; omega
  have hm1 : (m : Int) < 128 := by omega
  have hm1' : (m : Int) + 1 < 128 := by omega
  have hwm : IntKind.i64.wrap ((m : Int) + 1) = (m : Int) + 1 := by simp [IntKind.wrap, IntKind.bits, IntKind.signed]; omega
  have htm : ((m : Int) + 1).toNat = m + 1 := by omega
  have hpm : (0 : Int) ≤ (m : Int) + 1 := by omega
  clear hcells hfrees hblk hbB hcv
  go_wp2_with (go_at_call 121; refine (hfar.out _).mono ?_; rintro e w3 ⟨rfl, rfl⟩)
  have hFq : F < q := by rw [← hq]; exact HF.out.lt
  have hgq : g < q := by rw [← hq]; exact HF.out.vol.lt
  have hF1 : FileAt W1 F g c v.length I d n v x := HF.out.keep (by rw [hq]; exact HBB.out)
  have hbl2 := blk_set (blk_set HBL.out m (.int .u8 (b : Nat))) (m + 1) (.int .u8 ((b : Int) / 256))
  have hv2 : VS ((W1.setCell ⟨q, m, none⟩ (.int .u8 b)).setCell ⟨q, m + 1, none⟩ (.int .u8 ((b : Int) / 256))) g v := (hF1.vol.other (by omega)).other (by omega)
  have hf2 : ((W1.setCell ⟨q, m, none⟩ (.int .u8 b)).setCell ⟨q, m + 1, none⟩ (.int .u8 ((b : Int) / 256))).heap[F]? = _ := blk_set_other (blk_set_other hF1.blk (by omega) _ _) (by omega) _ _
  have hcs : ∀ j, j < 128 → ((W1.setCell ⟨q, m, none⟩ (.int .u8 b)).setCell ⟨q, m + 1, none⟩ (.int .u8 ((b : Int) / 256))).cell? ⟨q, 0 + j, none⟩ = some (.int .u8 (gb (put2 s m b) j)) := fun j hj => by
    have hj0 := HC.out j hj
    have hj1 := HC.out m (by omega)
    have hj2 := HC.out (m + 1) (by omega)
    rw [cell_at HBL.out] at hj0 hj1 hj2
    have z1 := (Array.getElem?_eq_some_iff.1 hj1).1
    have z2 := (Array.getElem?_eq_some_iff.1 hj2).1
    rw [Nat.zero_add, cell_at hbl2, put2, gb_set' _ _ _ _ (by simp; omega), gb_set' _ _ _ _ (by omega)]
    by_cases e1 : j = m + 1
    · subst e1
      rw [if_pos rfl, Array.getElem?_setIfInBounds_self_of_lt (by simpa using z2)]
      congr 2
      omega
    · rw [if_neg e1, Array.getElem?_setIfInBounds_ne (by omega)]
      by_cases e2 : j = m
      · subst e2
        rw [if_pos rfl, Array.getElem?_setIfInBounds_self_of_lt z1]
        congr 2
        omega
      · rw [if_neg e2, Array.getElem?_setIfInBounds_ne (by omega)]
        exact hj0
  have hB2 : Below q w ((W1.setCell ⟨q, m, none⟩ (.int .u8 b)).setCell ⟨q, m + 1, none⟩ (.int .u8 ((b : Int) / 256))) := below_set (below_set HBB.out (Nat.le_refl _)) (Nat.le_refl _)
  clear hfi hci cm fm cm1 fm1 hbl2 hF1 c0 c18 hHeld
  generalize (W1.setCell ⟨q, m, none⟩ (.int .u8 b)).setCell ⟨q, m + 1, none⟩ (.int .u8 ((b : Int) / 256)) = W2 at *
  have c0 : W2.cell? ⟨F, 0, none⟩ = some (.slice (some ⟨g, 0, none⟩) v.length c) := by rw [cell_at hf2]; rfl
  have c18 : W2.cell? ⟨F, 18, none⟩ = some (.int .i64 x.ind) := by rw [cell_at hf2]; rfl
  have hci := hv2.cell x.ind hg2.2
  have hfi := hv2.free x.ind
  have HV2 := Lib.hid hv2
  have HF2 := Lib.hid hf2
  have HB2 := Lib.hid hB2
  have hst' := str_of_u8 W2.drew q 0 128 cp (put2 s m b) (by simp [hsi]) hcs
  clear hv2 hf2 hB2 hcs
  refine region_P (fun w' => w'.cell? ⟨F, 0, none⟩ = some (.slice (some ⟨g, 0, none⟩) v.length c) ∧ w'.cell? ⟨F, 18, none⟩ = some (.int .i64 x.ind) ∧ (convert 62 9 (.slice (some ⟨q, 0, none⟩) 128 cp)).run Try.prog w' = .ok (.string (mk (put2 s m b))) w') [12] (by kernel_rfl) ?_ (fun hHeld => ?_)
  · exact ⟨c0, c18, hst'⟩
  refine wpP_take (i := 0) (oi := ?oi56014) (v := ?v56014) ?hi56014 (by kernel_rfl) (by kernel_rfl) (by kernel_rfl) (by kernel_rfl) ?hQ56014 ?hy56014 (by assumption) ?rest56014
  case hi56014 => (simp only [List.getElem?_toArray, List.getElem?_cons_succ, List.getElem?_cons_zero]; exact rfl)
  case hQ56014 => exact fun _ _ _ h => h
  case hy56014 => (refine Or.inl ⟨by kernel_rfl, ?_⟩; intro w hSw; (try dsimp only at hSw); go_simp; try (with_reducible rfl))
  try simp only [Act.put, List.setIfInBounds_toArray, List.set_cons_zero, List.set_cons_succ]
  refine wpP_take (i := 1) (oi := ?oi56015) (v := ?v56015) ?hi56015 (by kernel_rfl) (by kernel_rfl) (by kernel_rfl) (by kernel_rfl) ?hQ56015 ?hy56015 (by assumption) ?rest56015
  case hi56015 => (simp only [List.getElem?_toArray, List.getElem?_cons_succ, List.getElem?_cons_zero]; exact rfl)
  case hQ56015 => exact fun _ _ _ h => h
  case hy56015 => (refine Or.inl ⟨by kernel_rfl, ?_⟩; intro w hSw; (try dsimp only at hSw); go_simp; try (with_reducible rfl))
  try simp only [Act.put, List.setIfInBounds_toArray, List.set_cons_zero, List.set_cons_succ]
  refine wpP_take (i := 2) (oi := ?oi56016) (v := ?v56016) ?hi56016 (by kernel_rfl) (by kernel_rfl) (by kernel_rfl) (by kernel_rfl) ?hQ56016 ?hy56016 (by assumption) ?rest56016
  case hi56016 => (simp only [List.getElem?_toArray, List.getElem?_cons_succ, List.getElem?_cons_zero]; exact rfl)
  case hQ56016 => exact fun _ _ _ h => h
  case hy56016 => (refine Or.inl ⟨by kernel_rfl, ?_⟩; intro w hSw; (try dsimp only at hSw); go_simp; try (with_reducible rfl))
  try simp only [Act.put, List.setIfInBounds_toArray, List.set_cons_zero, List.set_cons_succ]
  refine wpP_take (i := 3) (oi := ?oi56017) (v := ?v56017) ?hi56017 (by kernel_rfl) (by kernel_rfl) (by kernel_rfl) (by kernel_rfl) ?hQ56017 ?hy56017 (by assumption) ?rest56017
  case hi56017 => (simp only [List.getElem?_toArray, List.getElem?_cons_succ, List.getElem?_cons_zero]; exact rfl)
  case hQ56017 => exact fun _ _ _ h => h
  case hy56017 => (refine Or.inl ⟨by kernel_rfl, ?_⟩; intro w hSw; (try dsimp only at hSw); go_simp; try (with_reducible rfl))
  try simp only [Act.put, List.setIfInBounds_toArray, List.set_cons_zero, List.set_cons_succ]
  refine wpP_take (i := 4) (oi := ?oi56018) (v := ?v56018) ?hi56018 (by kernel_rfl) (by kernel_rfl) (by kernel_rfl) (by kernel_rfl) ?hQ56018 ?hy56018 (by assumption) ?rest56018
  case hi56018 => (simp only [List.getElem?_toArray, List.getElem?_cons_succ, List.getElem?_cons_zero]; exact rfl)
  case hQ56018 => exact fun _ _ _ h => h
  case hy56018 => (refine Or.inl ⟨by kernel_rfl, ?_⟩; intro w hSw; (try dsimp only at hSw); go_simp; try (with_reducible rfl))
  try simp only [Act.put, List.setIfInBounds_toArray, List.set_cons_zero, List.set_cons_succ]
  refine wpP_take (i := 5) (oi := ?oi56019) (v := ?v56019) ?hi56019 (by kernel_rfl) (by kernel_rfl) (by kernel_rfl) (by kernel_rfl) ?hQ56019 ?hy56019 (by assumption) ?rest56019
  case hi56019 => (simp only [List.getElem?_toArray, List.getElem?_cons_succ, List.getElem?_cons_zero]; exact rfl)
  case hQ56019 => exact fun _ _ _ h => h
  case hy56019 => (refine Or.inl ⟨by kernel_rfl, ?_⟩; intro w hSw; (try dsimp only at hSw); go_simp; try (with_reducible rfl))
  try simp only [Act.put, List.setIfInBounds_toArray, List.set_cons_zero, List.set_cons_succ]
  refine wpP_take (i := 6) (oi := ?oi56020) (v := ?v56020) ?hi56020 (by kernel_rfl) (by kernel_rfl) (by kernel_rfl) (by kernel_rfl) ?hQ56020 ?hy56020 (by assumption) ?rest56020
  case hi56020 => (simp only [List.getElem?_toArray, List.getElem?_cons_succ, List.getElem?_cons_zero]; exact rfl)
  case hQ56020 => exact fun _ _ _ h => h
  case hy56020 => (refine Or.inl ⟨by kernel_rfl, ?_⟩; intro w hSw; (try dsimp only at hSw); go_simp; try (with_reducible rfl))
  try simp only [Act.put, List.setIfInBounds_toArray, List.set_cons_zero, List.set_cons_succ]
  refine wpP_take (i := 7) (oi := ?oi56021) (v := ?v56021) ?hi56021 (by kernel_rfl) (by kernel_rfl) (by kernel_rfl) (by kernel_rfl) ?hQ56021 ?hy56021 (by assumption) ?rest56021
  case hi56021 => (simp only [List.getElem?_toArray, List.getElem?_cons_succ, List.getElem?_cons_zero]; exact rfl)
  case hQ56021 => exact fun _ _ _ h => h
  case hy56021 => (refine Or.inl ⟨by kernel_rfl, ?_⟩; intro w hSw; (try dsimp only at hSw); go_simp; try (with_reducible rfl))
  try simp only [Act.put, List.setIfInBounds_toArray, List.set_cons_zero, List.set_cons_succ]
  refine wpP_take (i := 8) (oi := ?oi56022) (v := ?v56022) ?hi56022 (by kernel_rfl) (by kernel_rfl) (by kernel_rfl) (by kernel_rfl) ?hQ56022 ?hy56022 (by assumption) ?rest56022
  case hi56022 => (simp only [List.getElem?_toArray, List.getElem?_cons_succ, List.getElem?_cons_zero]; exact rfl)
  case hQ56022 => exact fun _ _ _ h => h
  case hy56022 => (refine Or.inl ⟨by kernel_rfl, ?_⟩; intro w hSw; (try dsimp only at hSw); go_simp; try (with_reducible rfl))
  try simp only [Act.put, List.setIfInBounds_toArray, List.set_cons_zero, List.set_cons_succ]
  refine wpP_take (i := 9) (oi := ?oi56023) (v := ?v56023) ?hi56023 (by kernel_rfl) (by kernel_rfl) (by kernel_rfl) (by kernel_rfl) ?hQ56023 ?hy56023 (by assumption) ?rest56023
  case hi56023 => (simp only [List.getElem?_toArray, List.getElem?_cons_succ, List.getElem?_cons_zero]; exact rfl)
  case hQ56023 => exact fun _ _ _ h => h
  case hy56023 => (refine Or.inl ⟨by kernel_rfl, ?_⟩; intro w hSw; (try dsimp only at hSw); go_simp; try (with_reducible rfl))
  try simp only [Act.put, List.setIfInBounds_toArray, List.set_cons_zero, List.set_cons_succ]
  refine wpP_take (i := 10) (oi := ?oi56024) (v := ?v56024) ?hi56024 (by kernel_rfl) (by kernel_rfl) (by kernel_rfl) (by kernel_rfl) ?hQ56024 ?hy56024 (by assumption) ?rest56024
  case hi56024 => (simp only [List.getElem?_toArray, List.getElem?_cons_succ, List.getElem?_cons_zero]; exact rfl)
  case hQ56024 => exact fun _ _ _ h => h
  case hy56024 => (refine Or.inl ⟨by kernel_rfl, ?_⟩; intro w hSw; (try dsimp only at hSw); go_simp; try (with_reducible rfl))
  try simp only [Act.put, List.setIfInBounds_toArray, List.set_cons_zero, List.set_cons_succ]
  refine wpP_take (i := 11) (oi := ?oi56025) (v := ?v56025) ?hi56025 (by kernel_rfl) (by kernel_rfl) (by kernel_rfl) (by kernel_rfl) ?hQ56025 ?hy56025 (by assumption) ?rest56025
  case hi56025 => (simp only [List.getElem?_toArray, List.getElem?_cons_succ, List.getElem?_cons_zero]; exact rfl)
  case hQ56025 => exact fun _ _ _ h => h
  case hy56025 => (refine Or.inl ⟨by kernel_rfl, ?_⟩; intro w hSw; (try dsimp only at hSw); go_simp; try (with_reducible rfl))
  try simp only [Act.put, List.setIfInBounds_toArray, List.set_cons_zero, List.set_cons_succ]
  refine wpP_ready (rs := [12]) (by kernel_rfl) (by simp) ?_
  refine AllP.last (o := ?o56026) ?ho56026 (by kernel_rfl) (fun K hK => ?_) AllP.nil
  case ho56026 => (simp only [List.getElem?_toArray, List.getElem?_cons_succ, List.getElem?_cons_zero]; exact rfl)
  go_simp
  refine hK.out _ _ ?_
  clear hK K
  try simp only [Act.put, List.setIfInBounds_toArray, List.set_cons_zero, List.set_cons_succ]
  refine wpP_done (by kernel_rfl) ?_ _
  go_wp2
  refine bodyPost_end (v := .tuple #[]) (by simp [results, Try.results111, go_sem]) rfl ?_
  refine ⟨rfl, ⟨blk_set_other HF2.out HF.out.ne _ _, HV2.out.set x.ind _ hg2.2, by simp, HF.out.ne⟩, fun B h1 h2 => (below_set (HB2.out.mono (by omega)) h2).drew⟩
theorem xname_ok (F g c L I d n : Nat) (v : Vol) (x : Ino) (k b : Nat) (w : World) (hf : FileAt w F g c L I d n v x) (hk : k < 70) (hb : b < 256) (hg : k < 6 ∨ goodN d L x.ind = true) (hs : ∀ j, j < L → (bk v j).length = 128) (hL : L ≤ 223) :
    Calls Try.prog 111 #[.pointer (some ⟨F, 0, none⟩), .int .i64 k, .int .i64 b] w fun e w' => e = .returned (.tuple #[]) ∧ FileAt w' F g c L I d n (nameV d v x k b) (nameX x k b) ∧ ∀ B, B ≤ F → B ≤ g → Below B w w' := by
  by_cases h6 : k < 6
  · rw [nameV, if_pos h6, nameX, if_pos h6]
    exact (xname_near F g c L I d n v x k b w hf h6).mono fun e w' h => ⟨h.1, h.2.1, fun B h1 _ => h.2.2 B h1⟩
  · have hg' := hg.resolve_left h6
    rw [nameV, if_neg h6, nameX, if_neg h6, hf.len, if_pos hg']
    exact xname_far F g c L I d n v x k b w hf (by omega) hk hb hg' hs hL
end Go.Proofs.Ytacdohlhalnioaa
end

/- Contract: an open file places a block. -/
section
set_option linter.unusedSimpArgs false
set_option linter.unusedVariables false
set_option maxRecDepth 20000
namespace Go.Proofs.Ytacdohlhalnioaa
open Go.RowKit
attribute [local go_sem] Oper.semAt_some

set_option maxHeartbeats 1000000 in
theorem xplace_is (F g c L I d n : Nat) (v : Vol) (x : Ino) (k b : Nat) (w : World) (hf : FileAt w F g c L I d n v x) (hv : okV v = true) (hd : dataV v = d) (hk : k < 70) (h : atN d L v x k = b) (h0 : b ≠ 0) :
    Calls Try.prog 78 #[.pointer (some ⟨F, 0, none⟩), .int .i64 k] w fun e w' => e = .returned (.tuple #[.int .i64 b, .int .i64 0]) ∧ FileAt w' F g c L I d n v x ∧ Below w.heap.size w w' := by
  have H := okV_iff.1 hv
  have hd0 : 0 < d := by have := dataV_pos v; omega
  obtain rfl := hf.len
  have hat := Lib.hid (at_ok F g c v.length I d n v x k w hf hk hd0 H.size H.hi)
  rw [h, holeI, if_neg h0] at hat
  have hbn : ((b : Int) != -1) = true := by simp
  have HF := Lib.hid hf
  clear hf hv H h
  go_enter Try.func78, Try.ntmps78
  go_wp2_with (go_at_call 96; refine hat.out.mono ?_; rintro e w1 ⟨rfl, hb1⟩)
  go_ret2
  exact ⟨rfl, HF.out.keep hb1, hb1⟩
set_option maxHeartbeats 4000000 in
theorem xplace_one (F g c L I d n : Nat) (v : Vol) (x : Ino) (k b : Nat) (w : World) (hf : FileAt w F g c L I d n v x) (hv : okV v = true) (hd : dataV v = d) (hk : k < 70) (h : atN d L v x k = 0) (hg : k < 6 ∨ goodN d L x.ind = true) (hb : freeB v = some b) :
    Calls Try.prog 78 #[.pointer (some ⟨F, 0, none⟩), .int .i64 k] w fun e w' => e = .returned (.tuple #[.int .i64 b, .int .i64 0]) ∧ ∃ g' c', FileAt w' F g' c' L I d n (nameV d (tookV v b) x k b) (nameX x k b) ∧ ∀ B, B ≤ F → B ≤ g → B ≤ g' ∧ Below B w w' := by
  have H := okV_iff.1 hv
  have hd0 : 0 < d := by have := dataV_pos v; omega
  obtain rfl := hf.len
  obtain ⟨f1, f2, _⟩ := freeB_some hb
  have hkt := kept_tookV hv f1 f2
  have H2 := okV_iff.1 hkt.ok
  have hb256 : b < 256 := by have := H.hi; omega
  have hat := Lib.hid (at_ok F g c v.length I d n v x k w hf hk hd0 H.size H.hi)
  rw [h, holeI, if_pos rfl] at hat
  have htk := Lib.hid (fun w hf => xtake_ok F g c v.length I d n v x b w hf hv hb)
  have hnm := Lib.hid (fun g c w hf => xname_ok F g c v.length I d n (tookV v b) x k b w hf hk hb256 hg (fun j hj => H2.size j (by rw [hkt.len]; exact hj)) H.hi)
  have hgood := Lib.hid (fun w' (hf' : FileAt w' F g c v.length I d n v x) => good_ok F g c v.length I d n v x x.ind w' hf')
  have HF := Lib.hid hf
  have HL := Lib.hid hf.lt
  have HK := Lib.hid hkt
  have c18 : w.cell? ⟨F, 18, none⟩ = some (.int .i64 x.ind) := by rw [cell_at hf.blk]; rfl
  clear hf hv H H2 h hb hkt
  by_cases h6 : k < 6
  all_goals
    first | (have hki : ¬ (6 : Int) ≤ (k : Int) := by omega) | (have hki : (6 : Int) ≤ (k : Int) := by omega)
    try rw [hg.resolve_left h6] at hgood
    go_enter Try.func78, Try.ntmps78
    go_wp2_with (first
      | (go_at_call 96; refine hat.out.mono ?_; rintro e w1 ⟨rfl, hb1⟩; have c18 := cell_keep c18 hb1; have HB1 := Lib.hid hb1; clear hb1)
      | (go_at_call 63; refine (hgood.out _ (HF.out.keep HB1.out)).mono ?_; rintro e w2 ⟨rfl, rfl⟩)
      | (go_at_call 110; refine (htk.out _ (HF.out.keep HB1.out)).mono ?_; rintro e w2 ⟨rfl, g2, c2, hf2, hgs2, hb2⟩; have HF2 := Lib.hid hf2; have HB2 := Lib.hid hb2; clear hf2 hb2)
      | (go_at_call 111; refine (hnm.out _ _ _ HF2.out).mono ?_; rintro e w3 ⟨rfl, hf3, hb3⟩; have HF3 := Lib.hid hf3; have HB3 := Lib.hid hb3; clear hf3 hb3))
    go_ret2
    refine ⟨rfl, g2, c2, HF3.out, fun B h1 h2 => ?_⟩
    have s1 := HB1.out.size
    have s2 := HF.out.lt
    have s3 := HF.out.vol.lt
    exact ⟨by omega, ((HB1.out.mono (by omega)).trans (HB2.out B h1)).trans (HB3.out B h1 (by omega))⟩
theorem fcells_ind (F g c L I d n i : Nat) (x : Ino) :
    (#[.slice (some ⟨g, 0, none⟩) L c, .int .i64 L, .int .i64 I, .int .i64 1, .int .i64 2, .int .i64 3, .int .i64 d, .int .i64 n, .int .i64 ((x.kind : Nat) : Int), .int .i64 ((x.links : Nat) : Int), .int .i64 ((x.owner : Nat) : Int), .int .i64 ((x.size : Nat) : Int), .int .i64 ((x.d0 : Nat) : Int), .int .i64 ((x.d1 : Nat) : Int), .int .i64 ((x.d2 : Nat) : Int), .int .i64 ((x.d3 : Nat) : Int), .int .i64 ((x.d4 : Nat) : Int), .int .i64 ((x.d5 : Nat) : Int), .int .i64 ((x.ind : Nat) : Int), .int .i64 ((x.ext : Nat) : Int)] : Array Value).setIfInBounds 18 (.int .i64 i) = #[.slice (some ⟨g, 0, none⟩) L c, .int .i64 L, .int .i64 I, .int .i64 1, .int .i64 2, .int .i64 3, .int .i64 d, .int .i64 n, .int .i64 (((x.setI i).kind : Nat) : Int), .int .i64 (((x.setI i).links : Nat) : Int), .int .i64 (((x.setI i).owner : Nat) : Int), .int .i64 (((x.setI i).size : Nat) : Int), .int .i64 (((x.setI i).d0 : Nat) : Int), .int .i64 (((x.setI i).d1 : Nat) : Int), .int .i64 (((x.setI i).d2 : Nat) : Int), .int .i64 (((x.setI i).d3 : Nat) : Int), .int .i64 (((x.setI i).d4 : Nat) : Int), .int .i64 (((x.setI i).d5 : Nat) : Int), .int .i64 (((x.setI i).ind : Nat) : Int), .int .i64 (((x.setI i).ext : Nat) : Int)] := rfl
theorem FileAt.setI {w : World} {F g c L I d n : Nat} {v : Vol} {x : Ino} (h : FileAt w F g c L I d n v x) (i : Nat) : FileAt (w.setCell ⟨F, 18, none⟩ (.int .i64 i)) F g c L I d n v (x.setI i) := by
  have hb := blk_set h.blk 18 (.int .i64 i)
  rw [fcells_ind F] at hb
  exact ⟨hb, h.vol.other (Ne.symm h.ne), h.len, h.ne⟩
set_option maxHeartbeats 4000000 in
theorem xplace_two (F g c L I d n : Nat) (v : Vol) (x : Ino) (k i b : Nat) (w : World) (hf : FileAt w F g c L I d n v x) (hv : okV v = true) (hd : dataV v = d) (hk : k < 70) (h : atN d L v x k = 0) (h6 : 6 ≤ k) (hg : goodN d L x.ind = false) (hi : freeB v = some i) (hb : freeB (tookV v i) = some b) :
    Calls Try.prog 78 #[.pointer (some ⟨F, 0, none⟩), .int .i64 k] w fun e w' => e = .returned (.tuple #[.int .i64 b, .int .i64 0]) ∧ ∃ g' c', FileAt w' F g' c' L I d n (nameV d (tookV (tookV v i) b) (x.setI i) k b) (nameX (x.setI i) k b) ∧ ∀ B, B ≤ F → B ≤ g → B ≤ g' ∧ Below B w w' := by
  have H := okV_iff.1 hv
  have hd0 : 0 < d := by have := dataV_pos v; omega
  obtain rfl := hf.len
  obtain ⟨f1, f2, _⟩ := freeB_some hi
  have hk1 := kept_tookV hv f1 f2
  obtain ⟨f3, f4, _⟩ := freeB_some hb
  have hk2 := kept_tookV hk1.ok f3 f4
  have H2 := okV_iff.1 hk2.ok
  rw [hk1.len] at f4
  have hb256 : b < 256 := by have := H.hi; omega
  have hgi : goodN d v.length (x.setI i).ind = true := goodN_iff.2 ⟨by rw [← hd]; exact f1, f2⟩
  have hat := Lib.hid (at_ok F g c v.length I d n v x k w hf hk hd0 H.size H.hi)
  rw [h, holeI, if_pos rfl] at hat
  have htk := Lib.hid (fun w hf => xtake_ok F g c v.length I d n v x i w hf hv hi)
  have htk2 := Lib.hid (fun g c w hf => xtake_ok F g c v.length I d n (tookV v i) (x.setI i) b w hf hk1.ok hb)
  have hnm := Lib.hid (fun g c w hf => xname_ok F g c v.length I d n (tookV (tookV v i) b) (x.setI i) k b w hf hk hb256 (.inr hgi) (fun j hj => H2.size j (by rw [hk2.len, hk1.len]; exact hj)) H.hi)
  have hgood := Lib.hid (fun w' (hf' : FileAt w' F g c v.length I d n v x) => good_ok F g c v.length I d n v x x.ind w' hf')
  rw [hg] at hgood
  have HF := Lib.hid hf
  have c18 : w.cell? ⟨F, 18, none⟩ = some (.int .i64 x.ind) := by rw [cell_at hf.blk]; rfl
  have hki : (6 : Int) ≤ (k : Int) := by omega
  clear hf hv H H2 h hb hk1 hk2
  go_enter Try.func78, Try.ntmps78
  go_wp2_with (first
    | (go_at_call 96; refine hat.out.mono ?_; rintro e w1 ⟨rfl, hb1⟩; have c18 := cell_keep c18 hb1; have HB1 := Lib.hid hb1; clear hb1)
    | (go_at_call 63; refine (hgood.out _ (HF.out.keep HB1.out)).mono ?_; rintro e w2 ⟨rfl, rfl⟩)
    | (go_at_call 111; have := HF3; refine (hnm.out _ _ _ HF4.out).mono ?_; rintro e w3 ⟨rfl, hf3, hb3⟩; have HF5 := Lib.hid hf3; have HB5 := Lib.hid hb3; clear hf3 hb3)
    | (go_at_call 110; have := HF3; refine (htk2.out _ _ _ HF3.out).mono ?_; rintro e w4 ⟨rfl, g4, c4, hf4, hgs4, hb4⟩; have HF4 := Lib.hid hf4; have HB4 := Lib.hid hb4; clear hf4 hb4)
    | (go_at_call 110; refine (htk.out _ (HF.out.keep HB1.out)).mono ?_; rintro e w2 ⟨rfl, g2, c2, hf2, hgs2, hb2⟩; have HF2 := Lib.hid hf2; have HB2 := Lib.hid hb2; have c18 : w2.cell? ⟨F, 18, none⟩ = some (.int .i64 x.ind) := (by rw [cell_at hf2.blk]; rfl); have hfr := free_of hf2.blk 18; have hf3 := hf2.setI i; have HF3 := Lib.hid hf3; clear hf2 hb2 hf3))
  go_ret2
  refine ⟨rfl, g4, c4, HF5.out, fun B h1 h2 => ?_⟩
  have s1 := HB1.out.size
  have s2 := HF.out.lt
  have s3 := HF.out.vol.lt
  have s5 := (HB2.out 0 (Nat.zero_le _)).size
  have s6 : (w2.setCell ⟨F, 18, none⟩ (.int .i64 i)).heap.size = w2.heap.size := by simp
  exact ⟨by omega, (((HB1.out.mono (by omega)).trans (below_set (HB2.out B h1) h1)).trans (HB4.out B h1)).trans (HB5.out B h1 (by omega))⟩
set_option maxHeartbeats 4000000 in
theorem xplace_full1 (F g c L I d n : Nat) (v : Vol) (x : Ino) (k : Nat) (w : World) (hf : FileAt w F g c L I d n v x) (hv : okV v = true) (hd : dataV v = d) (hk : k < 70) (h : atN d L v x k = 0) (hb : freeB v = none) :
    Calls Try.prog 78 #[.pointer (some ⟨F, 0, none⟩), .int .i64 k] w fun e w' => e = .returned (.tuple #[.int .i64 0, .int .i64 10]) ∧ ∀ B, B ≤ F → Below B w w' := by
  have H := okV_iff.1 hv
  have hd0 : 0 < d := by have := dataV_pos v; omega
  obtain rfl := hf.len
  have hat := Lib.hid (at_ok F g c v.length I d n v x k w hf hk hd0 H.size H.hi)
  rw [h, holeI, if_pos rfl] at hat
  have htk := Lib.hid (fun w hf => xtake_full F g c v.length I d n v x w hf hv hb)
  have hgood := Lib.hid (fun w' (hf' : FileAt w' F g c v.length I d n v x) => good_ok F g c v.length I d n v x x.ind w' hf')
  have HF := Lib.hid hf
  have c18 : w.cell? ⟨F, 18, none⟩ = some (.int .i64 x.ind) := by rw [cell_at hf.blk]; rfl
  clear hf hv H h hb
  have hfin : ∀ w1 w2, Below w.heap.size w w1 → Below w1.heap.size w1 w2 → ∀ B, B ≤ F → Below B w w2 := fun w1 w2 h1 h2 B hB => (below_keep h1 (Nat.le_refl _) h2).mono (by have := HF.out.lt; omega)
  have HFIN := Lib.hid hfin
  clear hfin
  by_cases h6 : k < 6
  · have hki : ¬ (6 : Int) ≤ (k : Int) := by omega
    go_enter Try.func78, Try.ntmps78
    go_wp2_with (first
      | (go_at_call 96; refine hat.out.mono ?_; rintro e w1 ⟨rfl, hb1⟩; have c18 := cell_keep c18 hb1; have HB1 := Lib.hid hb1; clear hb1)
      | (go_at_call 110; refine (htk.out _ (HF.out.keep HB1.out)).mono ?_; rintro e w2 ⟨rfl, hb2⟩; have HB2 := Lib.hid hb2; clear hb2))
    go_ret2
    exact ⟨rfl, HFIN.out _ _ HB1.out HB2.out⟩
  · have hki : (6 : Int) ≤ (k : Int) := by omega
    by_cases hg : goodN d v.length x.ind = true
    · rw [hg] at hgood
      go_enter Try.func78, Try.ntmps78
      go_wp2_with (first
        | (go_at_call 96; refine hat.out.mono ?_; rintro e w1 ⟨rfl, hb1⟩; have c18 := cell_keep c18 hb1; have HB1 := Lib.hid hb1; clear hb1)
        | (go_at_call 63; refine (hgood.out _ (HF.out.keep HB1.out)).mono ?_; rintro e w2 ⟨rfl, rfl⟩)
        | (go_at_call 110; refine (htk.out _ (HF.out.keep HB1.out)).mono ?_; rintro e w2 ⟨rfl, hb2⟩; have HB2 := Lib.hid hb2; clear hb2))
      go_ret2
      exact ⟨rfl, HFIN.out _ _ HB1.out HB2.out⟩
    · rw [Bool.not_eq_true] at hg
      rw [hg] at hgood
      go_enter Try.func78, Try.ntmps78
      go_wp2_with (first
        | (go_at_call 96; refine hat.out.mono ?_; rintro e w1 ⟨rfl, hb1⟩; have c18 := cell_keep c18 hb1; have HB1 := Lib.hid hb1; clear hb1)
        | (go_at_call 63; refine (hgood.out _ (HF.out.keep HB1.out)).mono ?_; rintro e w2 ⟨rfl, rfl⟩)
        | (go_at_call 110; refine (htk.out _ (HF.out.keep HB1.out)).mono ?_; rintro e w2 ⟨rfl, hb2⟩; have HB2 := Lib.hid hb2; clear hb2))
      go_ret2
      exact ⟨rfl, HFIN.out _ _ HB1.out HB2.out⟩
set_option maxHeartbeats 4000000 in
theorem xplace_full2 (F g c L I d n : Nat) (v : Vol) (x : Ino) (k i : Nat) (w : World) (hf : FileAt w F g c L I d n v x) (hv : okV v = true) (hd : dataV v = d) (hk : k < 70) (h : atN d L v x k = 0) (h6 : 6 ≤ k) (hg : goodN d L x.ind = false) (hi : freeB v = some i) (hb : freeB (tookV v i) = none) :
    Calls Try.prog 78 #[.pointer (some ⟨F, 0, none⟩), .int .i64 k] w fun e w' => e = .returned (.tuple #[.int .i64 0, .int .i64 10]) ∧ ∀ B, B ≤ F → Below B w w' := by
  have H := okV_iff.1 hv
  have hd0 : 0 < d := by have := dataV_pos v; omega
  obtain rfl := hf.len
  obtain ⟨f1, f2, _⟩ := freeB_some hi
  have hk1 := kept_tookV hv f1 f2
  have hat := Lib.hid (at_ok F g c v.length I d n v x k w hf hk hd0 H.size H.hi)
  rw [h, holeI, if_pos rfl] at hat
  have htk := Lib.hid (fun w hf => xtake_ok F g c v.length I d n v x i w hf hv hi)
  have htk2 := Lib.hid (fun g c w hf => xtake_full F g c v.length I d n (tookV v i) (x.setI i) w hf hk1.ok hb)
  have hgood := Lib.hid (fun w' (hf' : FileAt w' F g c v.length I d n v x) => good_ok F g c v.length I d n v x x.ind w' hf')
  rw [hg] at hgood
  have HF := Lib.hid hf
  have c18 : w.cell? ⟨F, 18, none⟩ = some (.int .i64 x.ind) := by rw [cell_at hf.blk]; rfl
  have hki : (6 : Int) ≤ (k : Int) := by omega
  clear hf hv H h hb hk1
  go_enter Try.func78, Try.ntmps78
  go_wp2_with (first
    | (go_at_call 96; refine hat.out.mono ?_; rintro e w1 ⟨rfl, hb1⟩; have c18 := cell_keep c18 hb1; have HB1 := Lib.hid hb1; clear hb1)
    | (go_at_call 63; refine (hgood.out _ (HF.out.keep HB1.out)).mono ?_; rintro e w2 ⟨rfl, rfl⟩)
    | (go_at_call 110; have := HF3; refine (htk2.out _ _ _ HF3.out).mono ?_; rintro e w4 ⟨rfl, hb4⟩; have HB4 := Lib.hid hb4; clear hb4)
    | (go_at_call 110; refine (htk.out _ (HF.out.keep HB1.out)).mono ?_; rintro e w2 ⟨rfl, g2, c2, hf2, hgs2, hb2⟩; have HF2 := Lib.hid hf2; have HB2 := Lib.hid hb2; have c18 : w2.cell? ⟨F, 18, none⟩ = some (.int .i64 x.ind) := (by rw [cell_at hf2.blk]; rfl); have hfr := free_of hf2.blk 18; have hf3 := hf2.setI i; have HF3 := Lib.hid hf3; clear hf2 hb2 hf3))
  go_ret2
  refine ⟨rfl, fun B h1 => ?_⟩
  have s1 := HB1.out.size
  have s2 := HF.out.lt
  have s5 := (HB2.out 0 (Nat.zero_le _)).size
  have s6 : (w2.setCell ⟨F, 18, none⟩ (.int .i64 i)).heap.size = w2.heap.size := by simp
  exact ((HB1.out.mono (by omega)).trans (below_set (HB2.out B h1) h1)).trans (HB4.out.mono (by omega))
theorem xplace_ok (F g c L I d n : Nat) (v : Vol) (x : Ino) (k b : Nat) (v' : Vol) (x' : Ino) (w : World) (hf : FileAt w F g c L I d n v x) (hv : okV v = true) (hd : dataV v = d) (hk : k < 70) (h : placeV v x k = some (b, v', x')) :
    Calls Try.prog 78 #[.pointer (some ⟨F, 0, none⟩), .int .i64 k] w fun e w' => e = .returned (.tuple #[.int .i64 b, .int .i64 0]) ∧ ∃ g' c', FileAt w' F g' c' L I d n v' x' ∧ ∀ B, B ≤ F → B ≤ g → B ≤ g' ∧ Below B w w' := by
  have hlen := hf.len
  unfold placeV at h
  rw [hlen, hd] at h
  split at h
  · rename_i h0
    split at h
    · rename_i hg
      split at h
      · cases h
      · rename_i i hi
        cases h
        exact xplace_one F g c L I d n v x k b w hf hv hd hk h0 hg hi
    · rename_i hg
      rw [not_or, Bool.not_eq_true] at hg
      split at h
      · cases h
      · rename_i i hi
        split at h
        · cases h
        · rename_i j hj
          cases h
          exact xplace_two F g c L I d n v x k i b w hf hv hd hk h0 (by omega) hg.2 hi hj
  · rename_i hne
    cases h
    refine (xplace_is F g c L I d n v x k _ w hf hv hd hk rfl hne).mono ?_
    rintro e w' ⟨rfl, h1, h2⟩
    have s2 := hf.lt
    exact ⟨rfl, g, c, h1, fun B hF hg => ⟨hg, h2.mono (by omega)⟩⟩
theorem xplace_full (F g c L I d n : Nat) (v : Vol) (x : Ino) (k : Nat) (w : World) (hf : FileAt w F g c L I d n v x) (hv : okV v = true) (hd : dataV v = d) (hk : k < 70) (h : placeV v x k = none) :
    Calls Try.prog 78 #[.pointer (some ⟨F, 0, none⟩), .int .i64 k] w fun e w' => e = .returned (.tuple #[.int .i64 0, .int .i64 10]) ∧ ∀ B, B ≤ F → Below B w w' := by
  have hlen := hf.len
  unfold placeV at h
  rw [hlen, hd] at h
  split at h
  · rename_i h0
    split at h
    · rename_i hg
      split at h
      · rename_i hi
        exact xplace_full1 F g c L I d n v x k w hf hv hd hk h0 hi
      · cases h
    · rename_i hg
      rw [not_or, Bool.not_eq_true] at hg
      split at h
      · rename_i hi
        exact xplace_full1 F g c L I d n v x k w hf hv hd hk h0 hi
      · rename_i i hi
        split at h
        · rename_i hj
          exact xplace_full2 F g c L I d n v x k i w hf hv hd hk h0 (by omega) hg.2 hi hj
        · cases h
  · cases h
end Go.Proofs.Ytacdohlhalnioaa
end

/- Contracts: an open file is closed; bytes are written. -/
section
set_option linter.unusedSimpArgs false
set_option linter.unusedVariables false
set_option maxRecDepth 20000
namespace Go.Proofs.Ytacdohlhalnioaa
open Go.RowKit
attribute [local go_sem] Oper.semAt_some

set_option maxHeartbeats 4000000 in
theorem close_ok (F g c L I d n : Nat) (v : Vol) (x : Ino) (w : World) (hf : FileAt w F g c L I d n v x) (hv : okV v = true) (h1 : 1 ≤ n) (h2 : n ≤ inosV v) (hx : fitI x) :
    Calls Try.prog 79 #[.pointer (some ⟨F, 0, none⟩)] w fun e w' => ∃ g' c', e = .returned (.tuple #[.slice (some ⟨g', 0, none⟩) L c', .int .i64 0]) ∧ VS w' g' (putV v n x) ∧ w.heap.size ≤ g' ∧ Below w.heap.size w w' := by
  obtain rfl := hf.len
  have hhi := (okV_iff.1 hv).hi
  have c0 : w.cell? ⟨F, 0, none⟩ = some (.slice (some ⟨g, 0, none⟩) v.length c) := by rw [cell_at hf.blk]; rfl
  have c7 : w.cell? ⟨F, 7, none⟩ = some (.int .i64 n) := by rw [cell_at hf.blk]; rfl
  have c8 : w.cell? ⟨F, 8, none⟩ = some (.int .i64 ((x.kind : Nat) : Int)) := by rw [cell_at hf.blk]; rfl
  have c9 : w.cell? ⟨F, 9, none⟩ = some (.int .i64 ((x.links : Nat) : Int)) := by rw [cell_at hf.blk]; rfl
  have c10 : w.cell? ⟨F, 10, none⟩ = some (.int .i64 ((x.owner : Nat) : Int)) := by rw [cell_at hf.blk]; rfl
  have c11 : w.cell? ⟨F, 11, none⟩ = some (.int .i64 ((x.size : Nat) : Int)) := by rw [cell_at hf.blk]; rfl
  have c12 : w.cell? ⟨F, 12, none⟩ = some (.int .i64 ((x.d0 : Nat) : Int)) := by rw [cell_at hf.blk]; rfl
  have c13 : w.cell? ⟨F, 13, none⟩ = some (.int .i64 ((x.d1 : Nat) : Int)) := by rw [cell_at hf.blk]; rfl
  have c14 : w.cell? ⟨F, 14, none⟩ = some (.int .i64 ((x.d2 : Nat) : Int)) := by rw [cell_at hf.blk]; rfl
  have c15 : w.cell? ⟨F, 15, none⟩ = some (.int .i64 ((x.d3 : Nat) : Int)) := by rw [cell_at hf.blk]; rfl
  have c16 : w.cell? ⟨F, 16, none⟩ = some (.int .i64 ((x.d4 : Nat) : Int)) := by rw [cell_at hf.blk]; rfl
  have c17 : w.cell? ⟨F, 17, none⟩ = some (.int .i64 ((x.d5 : Nat) : Int)) := by rw [cell_at hf.blk]; rfl
  have c18 : w.cell? ⟨F, 18, none⟩ = some (.int .i64 ((x.ind : Nat) : Int)) := by rw [cell_at hf.blk]; rfl
  have c19 : w.cell? ⟨F, 19, none⟩ = some (.int .i64 ((x.ext : Nat) : Int)) := by rw [cell_at hf.blk]; rfl
  have hput := Lib.hid (fun w A c hr => iput_ok A c v n x w hr hv h1 h2 hx)
  have HR := Lib.hid (hf.vol.rs (by omega))
  clear hf hv hx
  go_enter Try.func79, Try.ntmps79
  go_wp2
  refine region_P (fun w' => w'.cell? ⟨F, 0, none⟩ = some (.slice (some ⟨g, 0, none⟩) v.length c) ∧ w'.cell? ⟨F, 7, none⟩ = some (.int .i64 n) ∧ w'.cell? ⟨F, 8, none⟩ = some (.int .i64 ((x.kind : Nat) : Int)) ∧ w'.cell? ⟨F, 9, none⟩ = some (.int .i64 ((x.links : Nat) : Int)) ∧ w'.cell? ⟨F, 10, none⟩ = some (.int .i64 ((x.owner : Nat) : Int)) ∧ w'.cell? ⟨F, 11, none⟩ = some (.int .i64 ((x.size : Nat) : Int)) ∧ w'.cell? ⟨F, 12, none⟩ = some (.int .i64 ((x.d0 : Nat) : Int)) ∧ w'.cell? ⟨F, 13, none⟩ = some (.int .i64 ((x.d1 : Nat) : Int)) ∧ w'.cell? ⟨F, 14, none⟩ = some (.int .i64 ((x.d2 : Nat) : Int)) ∧ w'.cell? ⟨F, 15, none⟩ = some (.int .i64 ((x.d3 : Nat) : Int)) ∧ w'.cell? ⟨F, 16, none⟩ = some (.int .i64 ((x.d4 : Nat) : Int)) ∧ w'.cell? ⟨F, 17, none⟩ = some (.int .i64 ((x.d5 : Nat) : Int)) ∧ w'.cell? ⟨F, 18, none⟩ = some (.int .i64 ((x.ind : Nat) : Int)) ∧ w'.cell? ⟨F, 19, none⟩ = some (.int .i64 ((x.ext : Nat) : Int))) [] (by kernel_rfl) ?_ (fun hHeld => ?_)
  · exact ⟨c0, c7, c8, c9, c10, c11, c12, c13, c14, c15, c16, c17, c18, c19⟩
  refine wpP_take (i := 0) (oi := ?oi484001) (v := ?v484001) ?hi484001 (by kernel_rfl) (by kernel_rfl) (by kernel_rfl) (by kernel_rfl) ?hQ484001 ?hy484001 (by assumption) ?rest484001
  case hi484001 => (simp only [List.getElem?_toArray, List.getElem?_cons_succ, List.getElem?_cons_zero]; exact rfl)
  case hQ484001 => exact fun _ _ _ h => h
  case hy484001 => (refine Or.inl ⟨by kernel_rfl, ?_⟩; intro w hSw; (try dsimp only at hSw); go_simp; try (with_reducible rfl))
  try simp only [Act.put, List.setIfInBounds_toArray, List.set_cons_zero, List.set_cons_succ]
  refine wpP_take (i := 1) (oi := ?oi484002) (v := ?v484002) ?hi484002 (by kernel_rfl) (by kernel_rfl) (by kernel_rfl) (by kernel_rfl) ?hQ484002 ?hy484002 (by assumption) ?rest484002
  case hi484002 => (simp only [List.getElem?_toArray, List.getElem?_cons_succ, List.getElem?_cons_zero]; exact rfl)
  case hQ484002 => exact fun _ _ _ h => h
  case hy484002 => (refine Or.inl ⟨by kernel_rfl, ?_⟩; intro w hSw; (try dsimp only at hSw); go_simp; try (with_reducible rfl))
  try simp only [Act.put, List.setIfInBounds_toArray, List.set_cons_zero, List.set_cons_succ]
  refine wpP_take (i := 2) (oi := ?oi484003) (v := ?v484003) ?hi484003 (by kernel_rfl) (by kernel_rfl) (by kernel_rfl) (by kernel_rfl) ?hQ484003 ?hy484003 (by assumption) ?rest484003
  case hi484003 => (simp only [List.getElem?_toArray, List.getElem?_cons_succ, List.getElem?_cons_zero]; exact rfl)
  case hQ484003 => exact fun _ _ _ h => h
  case hy484003 => (refine Or.inl ⟨by kernel_rfl, ?_⟩; intro w hSw; (try dsimp only at hSw); go_simp; try (with_reducible rfl))
  try simp only [Act.put, List.setIfInBounds_toArray, List.set_cons_zero, List.set_cons_succ]
  refine wpP_take (i := 3) (oi := ?oi484004) (v := ?v484004) ?hi484004 (by kernel_rfl) (by kernel_rfl) (by kernel_rfl) (by kernel_rfl) ?hQ484004 ?hy484004 (by assumption) ?rest484004
  case hi484004 => (simp only [List.getElem?_toArray, List.getElem?_cons_succ, List.getElem?_cons_zero]; exact rfl)
  case hQ484004 => exact fun _ _ _ h => h
  case hy484004 => (refine Or.inl ⟨by kernel_rfl, ?_⟩; intro w hSw; (try dsimp only at hSw); go_simp; try (with_reducible rfl))
  try simp only [Act.put, List.setIfInBounds_toArray, List.set_cons_zero, List.set_cons_succ]
  refine wpP_take (i := 4) (oi := ?oi484005) (v := ?v484005) ?hi484005 (by kernel_rfl) (by kernel_rfl) (by kernel_rfl) (by kernel_rfl) ?hQ484005 ?hy484005 (by assumption) ?rest484005
  case hi484005 => (simp only [List.getElem?_toArray, List.getElem?_cons_succ, List.getElem?_cons_zero]; exact rfl)
  case hQ484005 => exact fun _ _ _ h => h
  case hy484005 => (refine Or.inl ⟨by kernel_rfl, ?_⟩; intro w hSw; (try dsimp only at hSw); go_simp; try (with_reducible rfl))
  try simp only [Act.put, List.setIfInBounds_toArray, List.set_cons_zero, List.set_cons_succ]
  refine wpP_take (i := 5) (oi := ?oi484006) (v := ?v484006) ?hi484006 (by kernel_rfl) (by kernel_rfl) (by kernel_rfl) (by kernel_rfl) ?hQ484006 ?hy484006 (by assumption) ?rest484006
  case hi484006 => (simp only [List.getElem?_toArray, List.getElem?_cons_succ, List.getElem?_cons_zero]; exact rfl)
  case hQ484006 => exact fun _ _ _ h => h
  case hy484006 => (refine Or.inl ⟨by kernel_rfl, ?_⟩; intro w hSw; (try dsimp only at hSw); go_simp; try (with_reducible rfl))
  try simp only [Act.put, List.setIfInBounds_toArray, List.set_cons_zero, List.set_cons_succ]
  refine wpP_take (i := 6) (oi := ?oi484007) (v := ?v484007) ?hi484007 (by kernel_rfl) (by kernel_rfl) (by kernel_rfl) (by kernel_rfl) ?hQ484007 ?hy484007 (by assumption) ?rest484007
  case hi484007 => (simp only [List.getElem?_toArray, List.getElem?_cons_succ, List.getElem?_cons_zero]; exact rfl)
  case hQ484007 => exact fun _ _ _ h => h
  case hy484007 => (refine Or.inl ⟨by kernel_rfl, ?_⟩; intro w hSw; (try dsimp only at hSw); go_simp; try (with_reducible rfl))
  try simp only [Act.put, List.setIfInBounds_toArray, List.set_cons_zero, List.set_cons_succ]
  refine wpP_take (i := 7) (oi := ?oi484008) (v := ?v484008) ?hi484008 (by kernel_rfl) (by kernel_rfl) (by kernel_rfl) (by kernel_rfl) ?hQ484008 ?hy484008 (by assumption) ?rest484008
  case hi484008 => (simp only [List.getElem?_toArray, List.getElem?_cons_succ, List.getElem?_cons_zero]; exact rfl)
  case hQ484008 => exact fun _ _ _ h => h
  case hy484008 => (refine Or.inl ⟨by kernel_rfl, ?_⟩; intro w hSw; (try dsimp only at hSw); go_simp; try (with_reducible rfl))
  try simp only [Act.put, List.setIfInBounds_toArray, List.set_cons_zero, List.set_cons_succ]
  refine wpP_take (i := 8) (oi := ?oi484009) (v := ?v484009) ?hi484009 (by kernel_rfl) (by kernel_rfl) (by kernel_rfl) (by kernel_rfl) ?hQ484009 ?hy484009 (by assumption) ?rest484009
  case hi484009 => (simp only [List.getElem?_toArray, List.getElem?_cons_succ, List.getElem?_cons_zero]; exact rfl)
  case hQ484009 => exact fun _ _ _ h => h
  case hy484009 => (refine Or.inl ⟨by kernel_rfl, ?_⟩; intro w hSw; (try dsimp only at hSw); go_simp; try (with_reducible rfl))
  try simp only [Act.put, List.setIfInBounds_toArray, List.set_cons_zero, List.set_cons_succ]
  refine wpP_take (i := 9) (oi := ?oi484010) (v := ?v484010) ?hi484010 (by kernel_rfl) (by kernel_rfl) (by kernel_rfl) (by kernel_rfl) ?hQ484010 ?hy484010 (by assumption) ?rest484010
  case hi484010 => (simp only [List.getElem?_toArray, List.getElem?_cons_succ, List.getElem?_cons_zero]; exact rfl)
  case hQ484010 => exact fun _ _ _ h => h
  case hy484010 => (refine Or.inl ⟨by kernel_rfl, ?_⟩; intro w hSw; (try dsimp only at hSw); go_simp; try (with_reducible rfl))
  try simp only [Act.put, List.setIfInBounds_toArray, List.set_cons_zero, List.set_cons_succ]
  refine wpP_take (i := 10) (oi := ?oi484011) (v := ?v484011) ?hi484011 (by kernel_rfl) (by kernel_rfl) (by kernel_rfl) (by kernel_rfl) ?hQ484011 ?hy484011 (by assumption) ?rest484011
  case hi484011 => (simp only [List.getElem?_toArray, List.getElem?_cons_succ, List.getElem?_cons_zero]; exact rfl)
  case hQ484011 => exact fun _ _ _ h => h
  case hy484011 => (refine Or.inl ⟨by kernel_rfl, ?_⟩; intro w hSw; (try dsimp only at hSw); go_simp; try (with_reducible rfl))
  try simp only [Act.put, List.setIfInBounds_toArray, List.set_cons_zero, List.set_cons_succ]
  refine wpP_take (i := 11) (oi := ?oi484012) (v := ?v484012) ?hi484012 (by kernel_rfl) (by kernel_rfl) (by kernel_rfl) (by kernel_rfl) ?hQ484012 ?hy484012 (by assumption) ?rest484012
  case hi484012 => (simp only [List.getElem?_toArray, List.getElem?_cons_succ, List.getElem?_cons_zero]; exact rfl)
  case hQ484012 => exact fun _ _ _ h => h
  case hy484012 => (refine Or.inl ⟨by kernel_rfl, ?_⟩; intro w hSw; (try dsimp only at hSw); go_simp; try (with_reducible rfl))
  try simp only [Act.put, List.setIfInBounds_toArray, List.set_cons_zero, List.set_cons_succ]
  refine wpP_ready (rs := [12]) (by kernel_rfl) (by simp) ?_
  refine AllP.cons (o := ?o484013) ?ho484013 (fun K hK => ?_) AllP.nil
  case ho484013 => (simp only [List.getElem?_toArray, List.getElem?_cons_succ, List.getElem?_cons_zero]; exact rfl)
  go_simp
  go_at_call 77
  refine (hput.out _ _ _ (HR.out.below ((Below.refl _ _).drew))).mono ?_
  rintro e w4 ⟨g4, c4, rfl, hg4, hgs4, hb4⟩
  refine hK.out _ _ ?_ (fun hHeld => ?_)
  · exact ⟨cell_keep (hHeld.1) hb4, cell_keep (hHeld.2.1) hb4, cell_keep (hHeld.2.2.1) hb4, cell_keep (hHeld.2.2.2.1) hb4, cell_keep (hHeld.2.2.2.2.1) hb4, cell_keep (hHeld.2.2.2.2.2.1) hb4, cell_keep (hHeld.2.2.2.2.2.2.1) hb4, cell_keep (hHeld.2.2.2.2.2.2.2.1) hb4, cell_keep (hHeld.2.2.2.2.2.2.2.2.1) hb4, cell_keep (hHeld.2.2.2.2.2.2.2.2.2.1) hb4, cell_keep (hHeld.2.2.2.2.2.2.2.2.2.2.1) hb4, cell_keep (hHeld.2.2.2.2.2.2.2.2.2.2.2.1) hb4, cell_keep (hHeld.2.2.2.2.2.2.2.2.2.2.2.2.1) hb4, cell_keep (hHeld.2.2.2.2.2.2.2.2.2.2.2.2.2) hb4⟩
  clear hK K
  try simp only [Act.put, List.setIfInBounds_toArray, List.set_cons_zero, List.set_cons_succ]
  refine wpP_take (i := 13) (oi := ?oi484014) (v := ?v484014) ?hi484014 (by kernel_rfl) (by kernel_rfl) (by kernel_rfl) (by kernel_rfl) ?hQ484014 ?hy484014 (by assumption) ?rest484014
  case hi484014 => (simp only [List.getElem?_toArray, List.getElem?_cons_succ, List.getElem?_cons_zero]; exact rfl)
  case hQ484014 => exact fun _ _ _ h => h
  case hy484014 => (refine Or.inl ⟨by kernel_rfl, ?_⟩; intro w hSw; (try dsimp only at hSw); go_simp; try (with_reducible rfl))
  try simp only [Act.put, List.setIfInBounds_toArray, List.set_cons_zero, List.set_cons_succ]
  refine wpP_take (i := 14) (oi := ?oi484015) (v := ?v484015) ?hi484015 (by kernel_rfl) (by kernel_rfl) (by kernel_rfl) (by kernel_rfl) ?hQ484015 ?hy484015 (by assumption) ?rest484015
  case hi484015 => (simp only [List.getElem?_toArray, List.getElem?_cons_succ, List.getElem?_cons_zero]; exact rfl)
  case hQ484015 => exact fun _ _ _ h => h
  case hy484015 => (refine Or.inl ⟨by kernel_rfl, ?_⟩; intro w hSw; (try dsimp only at hSw); go_simp; try (with_reducible rfl))
  try simp only [Act.put, List.setIfInBounds_toArray, List.set_cons_zero, List.set_cons_succ]
  refine wpP_take (i := 15) (oi := ?oi484016) (v := ?v484016) ?hi484016 (by kernel_rfl) (by kernel_rfl) (by kernel_rfl) (by kernel_rfl) ?hQ484016 ?hy484016 (by assumption) ?rest484016
  case hi484016 => (simp only [List.getElem?_toArray, List.getElem?_cons_succ, List.getElem?_cons_zero]; exact rfl)
  case hQ484016 => exact fun _ _ _ h => h
  case hy484016 => (refine Or.inl ⟨by kernel_rfl, ?_⟩; intro w hSw; (try dsimp only at hSw); go_simp; try (with_reducible rfl))
  try simp only [Act.put, List.setIfInBounds_toArray, List.set_cons_zero, List.set_cons_succ]
  refine wpP_take (i := 16) (oi := ?oi484017) (v := ?v484017) ?hi484017 (by kernel_rfl) (by kernel_rfl) (by kernel_rfl) (by kernel_rfl) ?hQ484017 ?hy484017 (by assumption) ?rest484017
  case hi484017 => (simp only [List.getElem?_toArray, List.getElem?_cons_succ, List.getElem?_cons_zero]; exact rfl)
  case hQ484017 => exact fun _ _ _ h => h
  case hy484017 => (refine Or.inl ⟨by kernel_rfl, ?_⟩; intro w hSw; (try dsimp only at hSw); go_simp; try (with_reducible rfl))
  try simp only [Act.put, List.setIfInBounds_toArray, List.set_cons_zero, List.set_cons_succ]
  refine wpP_done (by kernel_rfl) ?_ _
  go_wp2
  go_ret2
  exact ⟨g4, c4, rfl, hg4, hgs4, below_und hb4⟩
end Go.Proofs.Ytacdohlhalnioaa
end

/- Contract: bytes are written into a file. -/
section
set_option linter.unusedSimpArgs false
set_option linter.unusedVariables false
set_option maxRecDepth 20000
namespace Go.Proofs.Ytacdohlhalnioaa
open Go.RowKit
attribute [local go_sem] Oper.semAt_some

set_option maxHeartbeats 400000 in
theorem write_no (A : Option Addr) (c : Nat) (v : Vol) (n off : Int) (t : Blk) (w : World) (hr : RS w A v) (h : getE v n ≠ 0) :
    Calls Try.prog 35 #[.slice A v.length c, .int .i64 n, .int .i64 off, .string (mk t)] w fun e w' => e = .returned (.tuple #[.slice none 0 0, .int .i64 (getE v n)]) ∧ Below w.heap.size w w' := by
  have HP := Lib.hid (fun w hr => open_no A c v n w hr h)
  have HR := Lib.hid hr
  clear hr
  generalize getE v n = er at *
  have hb : (er == 0) = false := by simpa using h
  have hbn : (er != 0) = true := by simpa using h
  go_enter Try.func35, Try.ntmps35
  go_wp2_with (go_at_call 51; refine (HP.out _ HR.out).mono ?_; rintro e w1 ⟨rfl, hb1⟩)
  go_ret2
  exact ⟨rfl, hb1⟩
set_option maxHeartbeats 400000 in
theorem write_neg (A : Option Addr) (c : Nat) (v : Vol) (n : Nat) (off : Int) (t : Blk) (w : World) (hr : RS w A v) (hv : okV v = true) (h1 : 1 ≤ n) (h2 : n ≤ inosV v) (ho : off < 0) :
    Calls Try.prog 35 #[.slice A v.length c, .int .i64 n, .int .i64 off, .string (mk t)] w fun e w' => e = .returned (.tuple #[.slice none 0 0, .int .i64 1]) ∧ Below w.heap.size w w' := by
  have HP := Lib.hid (fun w hr => open_ok A c v n w hr hv h1 h2)
  have HR := Lib.hid hr
  clear hr hv
  go_enter Try.func35, Try.ntmps35
  go_wp2_with (go_at_call 51; refine (HP.out _ HR.out).mono ?_; rintro e w1 ⟨F, g, cg, rfl, hf1, hF, hg, hb1⟩)
  go_ret2
  exact ⟨rfl, hb1⟩
set_option maxHeartbeats 1000000 in
theorem write_limit (A : Option Addr) (c : Nat) (v : Vol) (n off : Nat) (t : Blk) (w : World) (hr : RS w A v) (hv : okV v = true) (h1 : 1 ≤ n) (h2 : n ≤ inosV v) (ho : 8960 < off ∨ 8960 < off + t.length) (hoff : (off : Int) ≤ 9223372036854775807) (htl : (t.length : Int) ≤ 9223372036854775807) :
    Calls Try.prog 35 #[.slice A v.length c, .int .i64 n, .int .i64 off, .string (mk t)] w fun e w' => e = .returned (.tuple #[.slice none 0 0, .int .i64 6]) ∧ Below w.heap.size w w' := by
  have HP := Lib.hid (fun w hr => open_ok A c v n w hr hv h1 h2)
  have HR := Lib.hid hr
  clear hr hv
  have h0 : (0 : Int) ≤ (off : Int) := by omega
  by_cases hb : 8960 < off
  · have hbi : (8960 : Int) < (off : Int) := by omega
    go_enter Try.func35, Try.ntmps35
    go_wp2_with (go_at_call 51; refine (HP.out _ HR.out).mono ?_; rintro e w1 ⟨F, g, cg, rfl, hf1, hF, hg, hb1⟩)
    go_ret2
    exact ⟨rfl, hb1⟩
  · have hbi : ¬ (8960 : Int) < (off : Int) := by omega
    have hw : IntKind.i64.wrap (8960 - (off : Int)) = 8960 - (off : Int) := by simp [IntKind.wrap, IntKind.bits, IntKind.signed]; omega
    have hlt : 8960 - (off : Int) < (t.length : Int) := by omega
    go_enter Try.func35, Try.ntmps35
    go_wp2_with (go_at_call 51; refine (HP.out _ HR.out).mono ?_; rintro e w1 ⟨F, g, cg, rfl, hf1, hF, hg, hb1⟩)
    go_ret2
    exact ⟨rfl, hb1⟩
set_option maxHeartbeats 1000000 in
theorem write_nil (A : Option Addr) (c : Nat) (v : Vol) (n off : Nat) (w : World) (hr : RS w A v) (hv : okV v = true) (h1 : 1 ≤ n) (h2 : n ≤ inosV v) (ho : off ≤ 8960) :
    Calls Try.prog 35 #[.slice A v.length c, .int .i64 n, .int .i64 off, .string (mk [])] w fun e w' => ∃ g c', e = .returned (.tuple #[.slice (some ⟨g, 0, none⟩) v.length c', .int .i64 0]) ∧ VS w' g v ∧ w.heap.size ≤ g ∧ Below w.heap.size w w' := by
  have HP := Lib.hid (fun w hr => open_ok A c v n w hr hv h1 h2)
  have HR := Lib.hid hr
  clear hr hv
  have h0 : (0 : Int) ≤ (off : Int) := by omega
  have hbi : ¬ (8960 : Int) < (off : Int) := by omega
  have hw : IntKind.i64.wrap (8960 - (off : Int)) = 8960 - (off : Int) := by simp [IntKind.wrap, IntKind.bits, IntKind.signed]; omega
  have hlt : ¬ 8960 - (off : Int) < 0 := by omega
  go_enter Try.func35, Try.ntmps35
  go_wp2_with (go_at_call 51; refine (HP.out _ HR.out).mono ?_; rintro e w1 ⟨F, g, cg, rfl, hf1, hF, hg, hb1⟩; have c0 : w1.cell? ⟨F, 0, none⟩ = some (.slice (some ⟨g, 0, none⟩) v.length cg) := (by rw [cell_at hf1.blk]; rfl); have HF1 := Lib.hid hf1; clear hf1)
  go_ret2
  exact ⟨g, cg, rfl, HF1.out.vol, hg, hb1⟩
end Go.Proofs.Ytacdohlhalnioaa
end

/- Contract: bytes are written into a file, block by block. -/
section
set_option linter.unusedSimpArgs false
set_option linter.unusedVariables false
set_option maxRecDepth 20000
namespace Go.Proofs.Ytacdohlhalnioaa
open Go.RowKit
attribute [local go_sem] Oper.semAt_some

/-- What a write of some bytes answers. -/
def WAns (w : World) (v : Vol) (n e : Nat) (R : Option (Vol × Ino)) (r : Ending) (w' : World) : Prop :=
  match R with
  | none => r = .returned (.tuple #[.slice none 0 0, .int .i64 10]) ∧ Below w.heap.size w w'
  | some (v', x') => ∃ g c', r = .returned (.tuple #[.slice (some ⟨g, 0, none⟩) v.length c', .int .i64 0]) ∧ VS w' g (putV v' n (if min x'.size 8960 < e then x'.setS e else x')) ∧ w.heap.size ≤ g ∧ Below w.heap.size w w'
theorem fcells_size (F g c L I d n i : Nat) (x : Ino) :
    (#[.slice (some ⟨g, 0, none⟩) L c, .int .i64 L, .int .i64 I, .int .i64 1, .int .i64 2, .int .i64 3, .int .i64 d, .int .i64 n, .int .i64 ((x.kind : Nat) : Int), .int .i64 ((x.links : Nat) : Int), .int .i64 ((x.owner : Nat) : Int), .int .i64 ((x.size : Nat) : Int), .int .i64 ((x.d0 : Nat) : Int), .int .i64 ((x.d1 : Nat) : Int), .int .i64 ((x.d2 : Nat) : Int), .int .i64 ((x.d3 : Nat) : Int), .int .i64 ((x.d4 : Nat) : Int), .int .i64 ((x.d5 : Nat) : Int), .int .i64 ((x.ind : Nat) : Int), .int .i64 ((x.ext : Nat) : Int)] : Array Value).setIfInBounds 11 (.int .i64 i) = #[.slice (some ⟨g, 0, none⟩) L c, .int .i64 L, .int .i64 I, .int .i64 1, .int .i64 2, .int .i64 3, .int .i64 d, .int .i64 n, .int .i64 (((x.setS i).kind : Nat) : Int), .int .i64 (((x.setS i).links : Nat) : Int), .int .i64 (((x.setS i).owner : Nat) : Int), .int .i64 (((x.setS i).size : Nat) : Int), .int .i64 (((x.setS i).d0 : Nat) : Int), .int .i64 (((x.setS i).d1 : Nat) : Int), .int .i64 (((x.setS i).d2 : Nat) : Int), .int .i64 (((x.setS i).d3 : Nat) : Int), .int .i64 (((x.setS i).d4 : Nat) : Int), .int .i64 (((x.setS i).d5 : Nat) : Int), .int .i64 (((x.setS i).ind : Nat) : Int), .int .i64 (((x.setS i).ext : Nat) : Int)] := rfl
theorem FileAt.setS {w : World} {F g c L I d n : Nat} {v : Vol} {x : Ino} (h : FileAt w F g c L I d n v x) (i : Nat) : FileAt (w.setCell ⟨F, 11, none⟩ (.int .i64 i)) F g c L I d n v (x.setS i) := by
  have hb := blk_set h.blk 11 (.int .i64 i)
  rw [fcells_size F] at hb
  exact ⟨hb, h.vol.other (Ne.symm h.ne), h.len, h.ne⟩
set_option maxHeartbeats 8000000 in
theorem write_ok (A : Option Addr) (c : Nat) (v : Vol) (n off : Nat) (t : Blk) (w : World) (hr : RS w A v) (hv : okV v = true) (h1 : 1 ≤ n) (h2 : n ≤ inosV v) (ho : off + t.length ≤ 8960) (ht : t ≠ []) :
    Calls Try.prog 35 #[.slice A v.length c, .int .i64 n, .int .i64 off, .string (mk t)] w (WAns w v n (off + t.length) (wrV t.length v (inoV v n) off t)) := by
  have HP := Lib.hid (fun w hr => open_ok A c v n w hr hv h1 h2)
  have HR := Lib.hid hr
  have hxf := inoV_fit v n
  have HXF := Lib.hid hxf
  have hL := (okV_iff.1 hv).hi
  obtain ⟨x, hX⟩ : ∃ x, inoV v n = x := ⟨_, rfl⟩
  rw [hX] at HP HXF ⊢
  obtain ⟨d, hd⟩ : ∃ d, dataV v = d := ⟨_, rfl⟩
  rw [hd] at HP
  obtain ⟨R, hR⟩ : ∃ R, wrV t.length v x off t = R := ⟨_, rfl⟩
  rw [hR]
  have HRR := Lib.hid hR
  have HV := Lib.hid hv
  have HD := Lib.hid hd
  clear hr hv hxf hR hX hd
  have h0 : (0 : Int) ≤ (off : Int) := by omega
  have hbi : ¬ (8960 : Int) < (off : Int) := by omega
  have hw : IntKind.i64.wrap (8960 - (off : Int)) = 8960 - (off : Int) := by simp [IntKind.wrap, IntKind.bits, IntKind.signed]; omega
  have hlt : ¬ 8960 - (off : Int) < (t.length : Int) := by omega
  have hie : t.isEmpty = false := by
    cases t with
    | nil => exact absurd rfl ht
    | cons _ _ => rfl
  have htl : 0 < t.length := List.length_pos_iff.2 ht
  have hwe : IntKind.i64.wrap ((off : Int) + (t.length : Int)) = (off : Int) + (t.length : Int) := by simp [IntKind.wrap, IntKind.bits, IntKind.signed]; omega
  go_enter Try.func35, Try.ntmps35
  go_wp2_with (go_at_call 51; refine (HP.out _ HR.out).mono ?_; rintro e w1 ⟨F, g, cg, rfl, hf1, hF, hg, hb1⟩; have HF1 := Lib.hid hf1; have HB1 := Lib.hid hb1; clear hf1 hb1)
  have hxs : (inoV v n).size = x.size → True := fun _ => trivial
  go_loopw [13] (fun av wr => ∃ (m : Nat) (v' : Vol) (x' : Ino) (g' cg' a : Nat), off ≤ a ∧ a ≤ off + t.length ∧ av = .int .i64 a ∧ (t.drop (a - off)).length ≤ m ∧ Hid (wrV m v' x' a (t.drop (a - off)) = R ∧ Kept v v' ∧ fitI x') ∧ Hid (FileAt wr F g' cg' v.length (inosV v) d n v' x') ∧ w.heap.size ≤ g' ∧ Hid (Below w.heap.size w wr)) (fun av _ => off + t.length - (intOf av).toNat)
  case atStart => exact ⟨t.length, v, x, g, cg, off, Nat.le_refl _, by omega, rfl, by simp, ⟨by rw [Nat.sub_self, List.drop_zero]; exact HRR.out, .rfl HV.out, HXF.out⟩, HF1, hg, HB1⟩
  case round =>
    obtain ⟨m, v', x', g', cg', a, ha1, ha2, rfl, hm, hW, hf, hgs, hB⟩ := hrel
    by_cases hlt2 : a < off + t.length
    · obtain ⟨k, hk⟩ : ∃ k, a / 128 = k := ⟨_, rfl⟩
      obtain ⟨r, hr⟩ : ∃ r, a % 128 = r := ⟨_, rfl⟩
      have hk70 : k < 70 := by omega
      have hkq : (a : Int) / 128 = (k : Int) := by omega
      have hkr : (a : Int).tmod 128 = (r : Int) := by rw [Int.tmod_eq_emod_of_nonneg (by omega)]; omega
      have hwk : IntKind.i64.wrap (k : Int) = (k : Int) := by simp [IntKind.wrap, IntKind.bits, IntKind.signed]; omega
      have hwr : IntKind.i64.wrap (r : Int) = (r : Int) := by simp [IntKind.wrap, IntKind.bits, IntKind.signed]; omega
      have hai : (a : Int) < (off : Int) + (t.length : Int) := by omega
      have hd' : dataV v' = d := by rw [hW.out.2.1.dat, HD.out]
      obtain ⟨p, hp⟩ : ∃ p, placeV v' x' k = p := ⟨_, rfl⟩
      obtain ⟨s, hs⟩ : ∃ s, t.drop (a - off) = s := ⟨_, rfl⟩
      have hsl : t.length - (a - off) = s.length := by rw [← hs, List.length_drop]
      rw [hs] at hW hm
      have hmk := hW.out.1
      obtain ⟨m1, rfl⟩ : ∃ m1, m = m1 + 1 := ⟨m - 1, by omega⟩
      have hsne : s ≠ [] := fun e => by rw [e] at hsl; simp only [List.length_nil] at hsl; omega
      rw [wrV, if_neg hsne, hk, hr, hp] at hmk
      rcases p with _ | ⟨b, v1, x1⟩
      · have hpl := Lib.hid (xplace_full F g' cg' v.length (inosV v) d n v' x' k wr hf.out hW.out.2.1.ok hd' hk70 hp)
        go_wp2_with (go_at_call 78; refine hpl.out.mono ?_; rintro e w3 ⟨rfl, hb3⟩)
        go_ret2
        try simp only at hmk
        rw [← hmk]
        exact ⟨rfl, hB.out.trans (hb3 _ hF)⟩
      · have hpl := Lib.hid (xplace_ok F g' cg' v.length (inosV v) d n v' x' k b v1 x1 wr hf.out hW.out.2.1.ok hd' hk70 hp)
        obtain ⟨p1, p2, p3, p4, p5⟩ := place_facts hW.out.2.1.ok hW.out.2.2 hp
        try simp only at hmk
        obtain ⟨q, hq⟩ : ∃ q, min s.length (128 - r) = q := ⟨_, rfl⟩
        obtain ⟨pc, hpc⟩ : ∃ pc, s.take q = pc := ⟨_, rfl⟩
        have hpc2 : s.take (128 - r) = pc := by
          rw [← hpc, ← hq]
          rcases Nat.le_total s.length (128 - r) with h | h
          · rw [Nat.min_eq_left h, List.take_of_length_le h, List.take_length]
          · rw [Nat.min_eq_right h]
        have hpl2 : pc.length = q := by rw [← hpc, List.length_take]; omega
        have hr128 : r < 128 := by omega
        have hq1 : 0 < q := by
          have := List.length_pos_iff.2 hsne
          omega
        rw [hpc2, hpl2] at hmk
        have hmn : (min (s.length : Int) (128 - (r : Int))).toNat = q := by omega
        have HM := Lib.hid hmk
        have HP2 := Lib.hid hpc2
        have hv1 := (hW.out.2.1.trans p3)
        have hb1 : b < v1.length := by rw [p3.len]; exact p2
        have hlv1 : v1.length = v.length := hv1.len
        have hbi1 : (b : Int) < (v.length : Nat) := by omega
        have hs1 := (okV_iff.1 hv1.ok).size b hb1
        obtain ⟨B, hBk⟩ : ∃ B, bk v1 b = B := ⟨_, rfl⟩
        rw [hBk] at hs1
        have HBK := Lib.hid hBk
        have HV1 := Lib.hid hv1
        have hmo : min r 128 = r := by omega
        have hc1 : ¬ (9223372036854775807 < r + q) := by omega
        have hc2 : ¬ (9223372036854775807 < r + q + (128 - (r + q))) := by omega
        have hc3 : ¬ ((128 : Int) < (r : Int)) := by omega
        have hc4 : ¬ ((128 : Int) < (r : Int) + (q : Int)) := by omega
        have hc5 : (r : Int) + (q : Int) ≤ 128 := by omega
        have hc6 : (r : Int) ≤ 128 := by omega
        have hww : IntKind.i64.wrap ((r : Int) + (q : Int)) = (r : Int) + (q : Int) := by simp [IntKind.wrap, IntKind.bits, IntKind.signed]; omega
        have hwa : IntKind.i64.wrap ((a : Int) + (q : Int)) = (a : Int) + (q : Int) := by simp [IntKind.wrap, IntKind.bits, IntKind.signed]; omega
        have hw2 : ((r : Int) + (q : Int)).toNat = r + q := by omega
        have hp1 : (0 : Int) ≤ (r : Int) + (q : Int) := by omega
        have htk : List.take (128 - (r + q)) (List.drop (r + q) B) = List.drop (r + q) B := List.take_of_length_le (by simp [hs1])
        clear hmk hpc2 hp hBk hv1 p3
        go_wp2_with (go_at_call 78; refine hpl.out.mono ?_; rintro e w3 ⟨rfl, g3, c3, hf3, hb3⟩; have q0 : w3.cell? ⟨F, 0, none⟩ = some (.slice (some ⟨g3, 0, none⟩) v.length c3) := (by rw [cell_at hf3.blk]; rfl); have q1 : w3.cell? ⟨g3, b, none⟩ = some (.string (mk B)) := (by rw [← HBK.out]; exact hf3.vol.cell b hb1); have q2 := hf3.vol.free b; have HF3 := Lib.hid hf3; have HB3 := Lib.hid hb3; clear hf3 hb3)
        refine region_P (fun w' => w'.cell? ⟨F, 0, none⟩ = some (.slice (some ⟨g3, 0, none⟩) v.length c3)) [18] (by kernel_rfl) ?_ (fun hHeld => ?_)
        · exact q0
        refine wpP_take (i := 0) (oi := ?oi583001) (v := ?v583001) ?hi583001 (by kernel_rfl) (by kernel_rfl) (by kernel_rfl) (by kernel_rfl) ?hQ583001 ?hy583001 (by assumption) ?rest583001
        case hi583001 => (simp only [List.getElem?_toArray, List.getElem?_cons_succ, List.getElem?_cons_zero]; exact rfl)
        case hQ583001 => exact fun _ _ _ h => h
        case hy583001 => (refine Or.inl ⟨by kernel_rfl, ?_⟩; intro w hSw; (try dsimp only at hSw); go_simp; try (with_reducible rfl))
        try simp only [Act.put, List.setIfInBounds_toArray, List.set_cons_zero, List.set_cons_succ]
        refine wpP_take (i := 1) (oi := ?oi583002) (v := ?v583002) ?hi583002 (by kernel_rfl) (by kernel_rfl) (by kernel_rfl) (by kernel_rfl) ?hQ583002 ?hy583002 (by assumption) ?rest583002
        case hi583002 => (simp only [List.getElem?_toArray, List.getElem?_cons_succ, List.getElem?_cons_zero]; exact rfl)
        case hQ583002 => exact fun _ _ _ h => h
        case hy583002 => (refine Or.inl ⟨by kernel_rfl, ?_⟩; intro w hSw; (try dsimp only at hSw); go_simp; try (with_reducible rfl))
        try simp only [Act.put, List.setIfInBounds_toArray, List.set_cons_zero, List.set_cons_succ]
        refine wpP_take (i := 2) (oi := ?oi583003) (v := ?v583003) ?hi583003 (by kernel_rfl) (by kernel_rfl) (by kernel_rfl) (by kernel_rfl) ?hQ583003 ?hy583003 (by assumption) ?rest583003
        case hi583003 => (simp only [List.getElem?_toArray, List.getElem?_cons_succ, List.getElem?_cons_zero]; exact rfl)
        case hQ583003 => exact fun _ _ _ h => h
        case hy583003 => (refine Or.inl ⟨by kernel_rfl, ?_⟩; intro w hSw; (try dsimp only at hSw); go_simp; try (with_reducible rfl))
        try simp only [Act.put, List.setIfInBounds_toArray, List.set_cons_zero, List.set_cons_succ]
        refine wpP_take (i := 3) (oi := ?oi583004) (v := ?v583004) ?hi583004 (by kernel_rfl) (by kernel_rfl) (by kernel_rfl) (by kernel_rfl) ?hQ583004 ?hy583004 (by assumption) ?rest583004
        case hi583004 => (simp only [List.getElem?_toArray, List.getElem?_cons_succ, List.getElem?_cons_zero]; exact rfl)
        case hQ583004 => exact fun _ _ _ h => h
        case hy583004 => (refine Or.inl ⟨by kernel_rfl, ?_⟩; intro w hSw; (try dsimp only at hSw); go_simp; try (with_reducible rfl))
        try simp only [Act.put, List.setIfInBounds_toArray, List.set_cons_zero, List.set_cons_succ]
        refine wpP_take (i := 4) (oi := ?oi583005) (v := ?v583005) ?hi583005 (by kernel_rfl) (by kernel_rfl) (by kernel_rfl) (by kernel_rfl) ?hQ583005 ?hy583005 (by assumption) ?rest583005
        case hi583005 => (simp only [List.getElem?_toArray, List.getElem?_cons_succ, List.getElem?_cons_zero]; exact rfl)
        case hQ583005 => exact fun _ _ _ h => h
        case hy583005 => (refine Or.inl ⟨by kernel_rfl, ?_⟩; intro w hSw; (try dsimp only at hSw); go_simp; try (with_reducible rfl))
        try simp only [Act.put, List.setIfInBounds_toArray, List.set_cons_zero, List.set_cons_succ]
        refine wpP_take (i := 5) (oi := ?oi583006) (v := ?v583006) ?hi583006 (by kernel_rfl) (by kernel_rfl) (by kernel_rfl) (by kernel_rfl) ?hQ583006 ?hy583006 (by assumption) ?rest583006
        case hi583006 => (simp only [List.getElem?_toArray, List.getElem?_cons_succ, List.getElem?_cons_zero]; exact rfl)
        case hQ583006 => exact fun _ _ _ h => h
        case hy583006 => (refine Or.inl ⟨by kernel_rfl, ?_⟩; intro w hSw; (try dsimp only at hSw); go_simp; try (with_reducible rfl))
        try simp only [Act.put, List.setIfInBounds_toArray, List.set_cons_zero, List.set_cons_succ]
        refine wpP_take (i := 6) (oi := ?oi583007) (v := ?v583007) ?hi583007 (by kernel_rfl) (by kernel_rfl) (by kernel_rfl) (by kernel_rfl) ?hQ583007 ?hy583007 (by assumption) ?rest583007
        case hi583007 => (simp only [List.getElem?_toArray, List.getElem?_cons_succ, List.getElem?_cons_zero]; exact rfl)
        case hQ583007 => exact fun _ _ _ h => h
        case hy583007 => (refine Or.inl ⟨by kernel_rfl, ?_⟩; intro w hSw; (try dsimp only at hSw); go_simp; try (with_reducible rfl))
        try simp only [Act.put, List.setIfInBounds_toArray, List.set_cons_zero, List.set_cons_succ]
        refine wpP_take (i := 7) (oi := ?oi583008) (v := ?v583008) ?hi583008 (by kernel_rfl) (by kernel_rfl) (by kernel_rfl) (by kernel_rfl) ?hQ583008 ?hy583008 (by assumption) ?rest583008
        case hi583008 => (simp only [List.getElem?_toArray, List.getElem?_cons_succ, List.getElem?_cons_zero]; exact rfl)
        case hQ583008 => exact fun _ _ _ h => h
        case hy583008 => (refine Or.inl ⟨by kernel_rfl, ?_⟩; intro w hSw; (try dsimp only at hSw); go_simp; try (with_reducible rfl))
        try simp only [Act.put, List.setIfInBounds_toArray, List.set_cons_zero, List.set_cons_succ]
        refine wpP_take (i := 8) (oi := ?oi583009) (v := ?v583009) ?hi583009 (by kernel_rfl) (by kernel_rfl) (by kernel_rfl) (by kernel_rfl) ?hQ583009 ?hy583009 (by assumption) ?rest583009
        case hi583009 => (simp only [List.getElem?_toArray, List.getElem?_cons_succ, List.getElem?_cons_zero]; exact rfl)
        case hQ583009 => exact fun _ _ _ h => h
        case hy583009 => (refine Or.inl ⟨by kernel_rfl, ?_⟩; intro w hSw; (try dsimp only at hSw); go_simp; try (with_reducible rfl))
        try simp only [Act.put, List.setIfInBounds_toArray, List.set_cons_zero, List.set_cons_succ]
        refine wpP_take (i := 9) (oi := ?oi583010) (v := ?v583010) ?hi583010 (by kernel_rfl) (by kernel_rfl) (by kernel_rfl) (by kernel_rfl) ?hQ583010 ?hy583010 (by assumption) ?rest583010
        case hi583010 => (simp only [List.getElem?_toArray, List.getElem?_cons_succ, List.getElem?_cons_zero]; exact rfl)
        case hQ583010 => exact fun _ _ _ h => h
        case hy583010 => (refine Or.inl ⟨by kernel_rfl, ?_⟩; intro w hSw; (try dsimp only at hSw); go_simp; try (with_reducible rfl))
        try simp only [Act.put, List.setIfInBounds_toArray, List.set_cons_zero, List.set_cons_succ]
        refine wpP_take (i := 10) (oi := ?oi583011) (v := ?v583011) ?hi583011 (by kernel_rfl) (by kernel_rfl) (by kernel_rfl) (by kernel_rfl) ?hQ583011 ?hy583011 (by assumption) ?rest583011
        case hi583011 => (simp only [List.getElem?_toArray, List.getElem?_cons_succ, List.getElem?_cons_zero]; exact rfl)
        case hQ583011 => exact fun _ _ _ h => h
        case hy583011 => (refine Or.inl ⟨by kernel_rfl, ?_⟩; intro w hSw; (try dsimp only at hSw); go_simp; try (with_reducible rfl))
        try simp only [Act.put, List.setIfInBounds_toArray, List.set_cons_zero, List.set_cons_succ]
        refine wpP_take (i := 11) (oi := ?oi583012) (v := ?v583012) ?hi583012 (by kernel_rfl) (by kernel_rfl) (by kernel_rfl) (by kernel_rfl) ?hQ583012 ?hy583012 (by assumption) ?rest583012
        case hi583012 => (simp only [List.getElem?_toArray, List.getElem?_cons_succ, List.getElem?_cons_zero]; exact rfl)
        case hQ583012 => exact fun _ _ _ h => h
        case hy583012 => (refine Or.inl ⟨by kernel_rfl, ?_⟩; intro w hSw; (try dsimp only at hSw); go_simp; try (with_reducible rfl))
        try simp only [Act.put, List.setIfInBounds_toArray, List.set_cons_zero, List.set_cons_succ]
        refine wpP_take (i := 12) (oi := ?oi583013) (v := ?v583013) ?hi583013 (by kernel_rfl) (by kernel_rfl) (by kernel_rfl) (by kernel_rfl) ?hQ583013 ?hy583013 (by assumption) ?rest583013
        case hi583013 => (simp only [List.getElem?_toArray, List.getElem?_cons_succ, List.getElem?_cons_zero]; exact rfl)
        case hQ583013 => exact fun _ _ _ h => h
        case hy583013 => (refine Or.inl ⟨by kernel_rfl, ?_⟩; intro w hSw; (try dsimp only at hSw); go_simp; try (with_reducible rfl))
        try simp only [Act.put, List.setIfInBounds_toArray, List.set_cons_zero, List.set_cons_succ]
        refine wpP_take (i := 13) (oi := ?oi583014) (v := ?v583014) ?hi583014 (by kernel_rfl) (by kernel_rfl) (by kernel_rfl) (by kernel_rfl) ?hQ583014 ?hy583014 (by assumption) ?rest583014
        case hi583014 => (simp only [List.getElem?_toArray, List.getElem?_cons_succ, List.getElem?_cons_zero]; exact rfl)
        case hQ583014 => exact fun _ _ _ h => h
        case hy583014 => (refine Or.inl ⟨by kernel_rfl, ?_⟩; intro w hSw; (try dsimp only at hSw); go_simp; try (with_reducible rfl))
        try simp only [Act.put, List.setIfInBounds_toArray, List.set_cons_zero, List.set_cons_succ]
        refine wpP_take (i := 14) (oi := ?oi583015) (v := ?v583015) ?hi583015 (by kernel_rfl) (by kernel_rfl) (by kernel_rfl) (by kernel_rfl) ?hQ583015 ?hy583015 (by assumption) ?rest583015
        case hi583015 => (simp only [List.getElem?_toArray, List.getElem?_cons_succ, List.getElem?_cons_zero]; exact rfl)
        case hQ583015 => exact fun _ _ _ h => h
        case hy583015 => (refine Or.inl ⟨by kernel_rfl, ?_⟩; intro w hSw; (try dsimp only at hSw); go_simp; try (with_reducible rfl))
        try simp only [Act.put, List.setIfInBounds_toArray, List.set_cons_zero, List.set_cons_succ]
        refine wpP_take (i := 15) (oi := ?oi583016) (v := ?v583016) ?hi583016 (by kernel_rfl) (by kernel_rfl) (by kernel_rfl) (by kernel_rfl) ?hQ583016 ?hy583016 (by assumption) ?rest583016
        case hi583016 => (simp only [List.getElem?_toArray, List.getElem?_cons_succ, List.getElem?_cons_zero]; exact rfl)
        case hQ583016 => exact fun _ _ _ h => h
        case hy583016 => (refine Or.inl ⟨by kernel_rfl, ?_⟩; intro w hSw; (try dsimp only at hSw); go_simp; try (with_reducible rfl))
        try simp only [Act.put, List.setIfInBounds_toArray, List.set_cons_zero, List.set_cons_succ]
        refine wpP_take (i := 16) (oi := ?oi583017) (v := ?v583017) ?hi583017 (by kernel_rfl) (by kernel_rfl) (by kernel_rfl) (by kernel_rfl) ?hQ583017 ?hy583017 (by assumption) ?rest583017
        case hi583017 => (simp only [List.getElem?_toArray, List.getElem?_cons_succ, List.getElem?_cons_zero]; exact rfl)
        case hQ583017 => exact fun _ _ _ h => h
        case hy583017 => (refine Or.inl ⟨by kernel_rfl, ?_⟩; intro w hSw; (try dsimp only at hSw); go_simp; try (with_reducible rfl))
        try simp only [Act.put, List.setIfInBounds_toArray, List.set_cons_zero, List.set_cons_succ]
        refine wpP_take (i := 17) (oi := ?oi583018) (v := ?v583018) ?hi583018 (by kernel_rfl) (by kernel_rfl) (by kernel_rfl) (by kernel_rfl) ?hQ583018 ?hy583018 (by assumption) ?rest583018
        case hi583018 => (simp only [List.getElem?_toArray, List.getElem?_cons_succ, List.getElem?_cons_zero]; exact rfl)
        case hQ583018 => exact fun _ _ _ h => h
        case hy583018 => (refine Or.inl ⟨by kernel_rfl, ?_⟩; intro w hSw; (try dsimp only at hSw); go_simp; try (with_reducible rfl))
        try simp only [Act.put, List.setIfInBounds_toArray, List.set_cons_zero, List.set_cons_succ]
        refine wpP_ready (rs := [18]) (by kernel_rfl) (by simp) ?_
        refine AllP.last (o := ?o583019) ?ho583019 (by kernel_rfl) (fun K hK => ?_) AllP.nil
        case ho583019 => (simp only [List.getElem?_toArray, List.getElem?_cons_succ, List.getElem?_cons_zero]; exact rfl)
        go_simp
        refine hK.out _ _ ?_
        clear hK K
        try simp only [Act.put, List.setIfInBounds_toArray, List.set_cons_zero, List.set_cons_succ]
        refine wpP_done (by kernel_rfl) ?_ _
        go_wp2
        have hov : B.take r ++ (pc ++ B.drop (r + q)) = over (bk v1 b) r pc := by rw [HBK.out, over, hpl2, List.append_assoc]
        have hol : (over (bk v1 b) r pc).length = 128 := by rw [over_length _ _ _ (by rw [HBK.out, hpl2]; omega), HBK.out, hs1]
        rw [hov]
        have hgs3 := (HB3.out _ hF hgs)
        refine ⟨⟨m1, v1.set b (over (bk v1 b) r pc), x1, g3, c3, a + q, by omega, by omega, by go_num, by rw [List.length_drop]; omega, ⟨?_, HV1.out.trans (kept_set HV1.out.ok (by have := dataV_pos v'; omega) hol), p4⟩, ⟨blk_set_other HF3.out.blk HF3.out.ne _ _, HF3.out.vol.set b _ hb1, by rw [List.length_set]; exact hlv1, HF3.out.ne⟩, hgs3.1, Lib.hid (below_set (hB.out.trans hgs3.2) hgs3.1).drew⟩, by simp only [intOf]; omega⟩
        rw [show a + q - off = (a - off) + q from by omega, ← List.drop_drop, hs]
        exact HM.out
    · obtain rfl : a = off + t.length := by omega
      have hsnil : t.drop (off + t.length - off) = [] := by rw [show off + t.length - off = t.length from by omega, List.drop_length]
      have hW1 := hW.out.1
      rw [hsnil, wrV_nil] at hW1
      have hk := hW.out.2.1
      have hfit := hW.out.2.2
      have hsz := (fitI_iff.1 hfit).2.2.2.1
      have HF := hf
      have hlen := HF.out.len
      subst hW1
      obtain ⟨z, hz⟩ : ∃ z, min x'.size 8960 = z := ⟨_, rfl⟩
      by_cases hlz : z < off + t.length
      · have hlzi : (z : Int) < (off : Int) + (t.length : Int) := by omega
        have hcl := Lib.hid (fun w hf => close_ok F g' cg' v.length (inosV v) d n v' (x'.setS (off + t.length)) w hf hk.ok h1 (by rw [hk.ino]; exact h2) (setS_fit hfit (by omega)))
        have e1 : (if min x'.size 8960 < off + t.length then x'.setS (off + t.length) else x') = x'.setS (off + t.length) := if_pos (by omega)
        have q11 : wr.cell? ⟨F, 11, none⟩ = some (.int .i64 x'.size) := by rw [cell_at HF.out.blk]; rfl
        have hfr := free_of HF.out.blk 11
        have hf4 : Hid (FileAt (wr.setCell ⟨F, 11, none⟩ (.int .i64 ((off : Int) + (t.length : Int)))) F g' cg' v.length (inosV v) d n v' (x'.setS (off + t.length))) := Lib.hid (by rw [← Int.natCast_add]; exact HF.out.setS _)
        go_wp2_with (first
          | (go_at_call 54; refine (size_ok _ _ _ _ _ _ _ _ _ _ HF.out hsz).mono ?_; rw [hz]; rintro e w2 ⟨rfl, rfl⟩)
          | (go_at_call 79; refine (hcl.out _ hf4.out).mono ?_; rintro e w3 ⟨g4, c4, rfl, hg4, hgs4, hb4⟩))
        go_ret2
        have s1 := hB.out.size
        have s2 : (wr.setCell ⟨F, 11, none⟩ (.int .i64 ((off : Int) + (t.length : Int)))).heap.size = wr.heap.size := by simp
        refine ⟨g4, c4, rfl, by rw [hz, if_pos hlz]; exact hg4, by omega, ?_⟩
        exact below_keep (below_set hB.out hF) (by omega) hb4
      · have hlzi : ¬ (z : Int) < (off : Int) + (t.length : Int) := by omega
        have hcl := Lib.hid (fun w hf => close_ok F g' cg' v.length (inosV v) d n v' x' w hf hk.ok h1 (by rw [hk.ino]; exact h2) hfit)
        go_wp2_with (first
          | (go_at_call 54; refine (size_ok _ _ _ _ _ _ _ _ _ _ HF.out hsz).mono ?_; rw [hz]; rintro e w2 ⟨rfl, rfl⟩)
          | (go_at_call 79; refine (hcl.out _ HF.out).mono ?_; rintro e w3 ⟨g4, c4, rfl, hg4, hgs4, hb4⟩))
        go_ret2
        have s1 := hB.out.size
        exact ⟨g4, c4, rfl, by rw [hz, if_neg hlz]; exact hg4, by omega, below_keep hB.out (by omega) hb4⟩
end Go.Proofs.Ytacdohlhalnioaa
end

/- The pure law: free blocks, blocks that are taken, placed, written. -/
import Derived.Test.YtacdohlhalnioaaE1
import Derived.Test.YtacdohlhalnioaaG2
set_option linter.unusedVariables false
set_option maxRecDepth 20000
namespace Go.Proofs.Ytacdohlhalnioaa
open Go.RowKit

/-- The first block that isn't taken. -/
def freeB (v : Vol) : Option Nat := (List.range v.length).find? fun i => decide (dataV v ≤ i) && !bit (bk v 2) i
theorem freeB_some {v : Vol} {i : Nat} (h : freeB v = some i) : dataV v ≤ i ∧ i < v.length ∧ bit (bk v 2) i = false ∧ ∀ j, dataV v ≤ j → j < i → bit (bk v 2) j = true := by
  obtain ⟨h1, h2, h3⟩ := List.find?_range_eq_some.1 h
  simp only [Bool.and_eq_true, decide_eq_true_eq, Bool.not_eq_true', List.mem_range] at h1 h2
  refine ⟨h1.1, h2, h1.2, fun j hj hji => ?_⟩
  have := h3 j hji
  simpa [hj] using this
theorem freeB_none {v : Vol} (h : freeB v = none) : ∀ j, dataV v ≤ j → j < v.length → bit (bk v 2) j = true := by
  intro j h1 h2
  have := List.find?_range_eq_none.1 h j h2
  simpa [h1] using this
/-- The volume where a block is taken. -/
def tookV (v : Vol) (i : Nat) : Vol := (v.set 2 (turn (bk v 2) i)).set i (zs 128)
theorem tookV_length (v : Vol) (i : Nat) : (tookV v i).length = v.length := by simp [tookV]

theorem gb_set (m : Blk) (i j n : Nat) (hn : n < 256) (hi : i < m.length) : gb (m.set i (UInt8.ofNat n)) j = if j = i then n else gb m j := by
  unfold gb
  by_cases h : j = i
  · subst h
    rw [if_pos rfl, List.getD_eq_getElem?_getD, List.getElem?_set_self hi]
    simp
    omega
  · rw [if_neg h, List.getD_eq_getElem?_getD, List.getElem?_set_ne (by omega), ← List.getD_eq_getElem?_getD]
theorem testBit_gb (a q : Nat) : (a / 2 ^ q % 2 == 1) = a.testBit q := by
  rw [Nat.testBit_eq_decide_div_mod_eq]
  rfl
theorem bit_turn (m : Blk) (i j : Nat) (hm : m.length = 128) (hi : i < 1024) : bit (turn m i) j = if j = i then !bit m i else bit m j := by
  have hx : gb m (i / 8) ^^^ 2 ^ (i % 8) < 256 := xor_lt _ _ (gb_lt _ _) (by omega)
  have hn : ((2 : Nat) ^ (i % 8)).testBit (j % 8) = decide (i % 8 = j % 8) := Nat.testBit_two_pow
  have hn2 : ((2 : Nat) ^ (i % 8)).testBit (i % 8) = true := by simp
  rw [bit, turn, gb_set _ _ _ _ hx (by omega), testBit_gb]
  by_cases h : j = i
  · subst h
    rw [if_pos rfl, if_pos rfl, Nat.testBit_xor, hn2, bit, testBit_gb]
    simp
  · rw [if_neg h, bit, testBit_gb]
    by_cases h8 : j / 8 = i / 8
    · rw [if_pos h8, Nat.testBit_xor, hn, decide_eq_false (by omega), h8]
      simp
    · rw [if_neg h8]
/-- A volume of the same form. -/
structure Kept (v v' : Vol) : Prop where
  ok : okV v' = true
  len : v'.length = v.length
  ino : inosV v' = inosV v
  dat : dataV v' = dataV v
theorem Kept.rfl {v : Vol} (h : okV v = true) : Kept v v := ⟨h, Eq.refl _, Eq.refl _, Eq.refl _⟩
theorem Kept.trans {a b c : Vol} (h : Kept a b) (h2 : Kept b c) : Kept a c := ⟨h2.ok, h2.len.trans h.len, h2.ino.trans h.ino, h2.dat.trans h.dat⟩
theorem dataV_pos (v : Vol) : 2 < dataV v := by rw [dataV]; omega
theorem kept_set {v : Vol} (hv : okV v = true) {b : Nat} {s : Blk} (h1 : 2 < b) (hs : s.length = 128) : Kept v (v.set b s) := by
  have H := okV_iff.1 hv
  have e0 : bk (v.set b s) 0 = bk v 0 := bk_set_other _ _ _ _ (by omega)
  have e2 : bk (v.set b s) 2 = bk v 2 := bk_set_other _ _ _ _ (by omega)
  have ei : inosV (v.set b s) = inosV v := by rw [inosV, e0, inosV]
  have ed : dataV (v.set b s) = dataV v := by rw [dataV, ei, dataV]
  have el : (v.set b s).length = v.length := by simp
  refine ⟨okV_iff.2 ⟨fun j hj => ?_, ?_, ?_, ?_, ?_, ?_, ?_, ?_⟩, el, ei, ed⟩
  · by_cases h : b = j
    · subst h; rw [bk_set_same _ _ _ (by simpa using hj)]; exact hs
    · rw [bk_set_other _ _ _ _ h]; exact H.size j (by simpa using hj)
  · rw [el]; exact H.lo
  · rw [el]; exact H.hi
  · rw [ei]; exact H.ilo
  · rw [ei]; exact H.ihi
  · rw [el, ei]; exact H.data
  · rw [e0, el, ei]; exact H.head
  · rw [e2, ed, el]; exact H.map
theorem kept_tookV {v : Vol} (hv : okV v = true) {i : Nat} (h1 : dataV v ≤ i) (h2 : i < v.length) : Kept v (tookV v i) := by
  have H := okV_iff.1 hv
  have hd := dataV_pos v
  have hlo := H.lo
  have hhi := H.hi
  have h128 := H.size 2 (by omega)
  have e0 : bk (v.set 2 (turn (bk v 2) i)) 0 = bk v 0 := bk_set_other _ _ _ _ (by omega)
  have e2 : bk (v.set 2 (turn (bk v 2) i)) 2 = turn (bk v 2) i := bk_set_same _ _ _ (by omega)
  have ei : inosV (v.set 2 (turn (bk v 2) i)) = inosV v := by rw [inosV, e0, inosV]
  have ed : dataV (v.set 2 (turn (bk v 2) i)) = dataV v := by rw [dataV, ei, dataV]
  have el : (v.set 2 (turn (bk v 2) i)).length = v.length := by simp
  have hk : Kept v (v.set 2 (turn (bk v 2) i)) := by
    refine ⟨okV_iff.2 ⟨fun j hj => ?_, ?_, ?_, ?_, ?_, ?_, ?_, ?_⟩, el, ei, ed⟩
    · by_cases h : 2 = j
      · subst h; rw [e2]; simpa using h128
      · rw [bk_set_other _ _ _ _ h]; exact H.size j (by simpa using hj)
    · rw [el]; exact H.lo
    · rw [el]; exact H.hi
    · rw [ei]; exact H.ilo
    · rw [ei]; exact H.ihi
    · rw [el, ei]; exact H.data
    · rw [e0, el, ei]; exact H.head
    · rw [e2, ed, el, okmap_iff]
      intro j hj
      obtain ⟨m1, m2⟩ := (okmap_iff.1 H.map) j hj
      rw [bit_turn _ _ _ h128 (by omega)]
      refine ⟨fun h => ?_, fun h => ?_⟩
      · rw [if_neg (by omega)]; exact m1 h
      · rw [if_neg (by omega)]; exact m2 h
  exact hk.trans (kept_set hk.ok (by omega) (by simp))

/-- An inode whose k-th block is another one. -/
def Ino.setD (x : Ino) (k b : Nat) : Ino := { x with d0 := if k = 0 then b else x.d0, d1 := if k = 1 then b else x.d1, d2 := if k = 2 then b else x.d2, d3 := if k = 3 then b else x.d3, d4 := if k = 4 then b else x.d4, d5 := if k = 5 then b else x.d5 }
def Ino.setI (x : Ino) (b : Nat) : Ino := { x with ind := b }
def Ino.setS (x : Ino) (s : Nat) : Ino := { x with size := s }
/-- A number in two bytes of a block. -/
def put2 (s : Blk) (a n : Nat) : Blk := (s.set a (UInt8.ofNat n)).set (a + 1) (UInt8.ofNat (n / 256))
@[simp] theorem put2_length (s : Blk) (a n : Nat) : (put2 s a n).length = s.length := by simp [put2]
def nameV (d : Nat) (v : Vol) (x : Ino) (k b : Nat) : Vol := if k < 6 then v else if goodN d v.length x.ind = true then v.set x.ind (put2 (bk v x.ind) (2 * (k - 6)) b) else v
def nameX (x : Ino) (k b : Nat) : Ino := if k < 6 then x.setD k b else x
/-- The block of k, taken, if there is a hole: its number, the volume, the inode. -/
def placeV (v : Vol) (x : Ino) (k : Nat) : Option (Nat × Vol × Ino) :=
  if atN (dataV v) v.length v x k = 0 then
    (if k < 6 ∨ goodN (dataV v) v.length x.ind = true then
      (match freeB v with
      | none => none
      | some b => some (b, nameV (dataV v) (tookV v b) x k b, nameX x k b))
    else
      (match freeB v with
      | none => none
      | some i => match freeB (tookV v i) with
        | none => none
        | some b => some (b, nameV (dataV v) (tookV (tookV v i) b) (x.setI i) k b, nameX (x.setI i) k b)))
  else some (atN (dataV v) v.length v x k, v, x)
theorem fitI_iff {x : Ino} : fitI x ↔ x.kind < 256 ∧ x.links < 65536 ∧ x.owner < 256 ∧ x.size < 4294967296 ∧ x.d0 < 65536 ∧ x.d1 < 65536 ∧ x.d2 < 65536 ∧ x.d3 < 65536 ∧ x.d4 < 65536 ∧ x.d5 < 65536 ∧ x.ind < 65536 ∧ x.ext < 65536 := by
  constructor
  · intro h
    exact ⟨h 0, h 2, h 1, h 3, h 4, h 5, h 6, h 7, h 8, h 9, h 10, h 11⟩
  · rintro ⟨h0, h1, h2, h3, h4, h5, h6, h7, h8, h9, h10, h11⟩ k
    obtain ⟨k, hk⟩ := k
    rcases (by omega : k = 0 ∨ k = 1 ∨ k = 2 ∨ k = 3 ∨ k = 4 ∨ k = 5 ∨ k = 6 ∨ k = 7 ∨ k = 8 ∨ k = 9 ∨ k = 10 ∨ k = 11) with rfl | rfl | rfl | rfl | rfl | rfl | rfl | rfl | rfl | rfl | rfl | rfl
    · exact h0
    · exact h2
    · exact h1
    · exact h3
    · exact h4
    · exact h5
    · exact h6
    · exact h7
    · exact h8
    · exact h9
    · exact h10
    · exact h11
theorem inoOf_fit (s : Blk) : fitI (inoOf s) := by
  have a := gb_lt s
  have b := w2_lt s
  exact fitI_iff.2 ⟨a 0, b 2, a 1, by have := b 4; have := b 6; simp only [inoOf]; omega, b 8, b 10, b 12, b 14, b 16, b 18, b 20, b 22⟩
theorem inoV_fit (v : Vol) (n : Nat) : fitI (inoV v n) := inoOf_fit _
theorem inoV_size (v : Vol) (n : Nat) : (inoV v n).size < 4294967296 := (fitI_iff.1 (inoV_fit v n)).2.2.2.1
theorem setD_fit {x : Ino} {k b : Nat} (h : fitI x) (hb : b < 65536) : fitI (x.setD k b) := by
  obtain ⟨h0, h1, h2, h3, h4, h5, h6, h7, h8, h9, h10, h11⟩ := fitI_iff.1 h
  refine fitI_iff.2 ⟨h0, h1, h2, h3, ?_, ?_, ?_, ?_, ?_, ?_, h10, h11⟩
  all_goals
    simp only [Ino.setD]
    split <;> assumption
theorem setI_fit {x : Ino} {b : Nat} (h : fitI x) (hb : b < 65536) : fitI (x.setI b) := by
  obtain ⟨h0, h1, h2, h3, h4, h5, h6, h7, h8, h9, h10, h11⟩ := fitI_iff.1 h
  exact fitI_iff.2 ⟨h0, h1, h2, h3, h4, h5, h6, h7, h8, h9, hb, h11⟩
theorem setS_fit {x : Ino} {b : Nat} (h : fitI x) (hb : b < 4294967296) : fitI (x.setS b) := by
  obtain ⟨h0, h1, h2, h3, h4, h5, h6, h7, h8, h9, h10, h11⟩ := fitI_iff.1 h
  exact fitI_iff.2 ⟨h0, h1, h2, hb, h4, h5, h6, h7, h8, h9, h10, h11⟩
theorem nameX_fit {x : Ino} {k b : Nat} (h : fitI x) (hb : b < 65536) : fitI (nameX x k b) := by
  unfold nameX
  split
  · exact setD_fit h hb
  · exact h
theorem nameX_size (x : Ino) (k b : Nat) : (nameX x k b).size = x.size := by
  unfold nameX
  split <;> rfl
theorem goodN_iff {d L b : Nat} : goodN d L b = true ↔ d ≤ b ∧ b < L := by simp [goodN]
theorem kept_nameV {v : Vol} {x : Ino} {k b d : Nat} (hv : okV v = true) (hd : d = dataV v) : Kept v (nameV d v x k b) := by
  have := dataV_pos v
  unfold nameV
  split
  · exact .rfl hv
  · split
    · rename_i h
      have h2 := goodN_iff.1 h
      exact kept_set hv (by omega) (by rw [put2_length]; exact (okV_iff.1 hv).size _ h2.2)
    · exact .rfl hv
theorem atN_lt' {d L : Nat} {v : Vol} {x : Ino} {k : Nat} (h : atN d L v x k ≠ 0) : d ≤ atN d L v x k ∧ atN d L v x k < L := by
  unfold atN at h ⊢
  split at h
  · rename_i hg
    rw [if_pos hg]
    exact goodN_iff.1 hg
  · exact absurd rfl h
/-- What is placed is a block of the data; the volume keeps its form. -/
theorem place_facts {v : Vol} {x : Ino} {k : Nat} (hv : okV v = true) (hx : fitI x) {b : Nat} {v' : Vol} {x' : Ino} (h : placeV v x k = some (b, v', x')) : dataV v ≤ b ∧ b < v.length ∧ Kept v v' ∧ fitI x' ∧ x'.size = x.size := by
  have hhi := (okV_iff.1 hv).hi
  unfold placeV at h
  split at h
  · split at h
    · split at h
      · cases h
      · rename_i i hi
        cases h
        obtain ⟨f1, f2, _⟩ := freeB_some hi
        have hk := kept_tookV hv f1 f2
        exact ⟨f1, f2, hk.trans (kept_nameV hk.ok hk.dat.symm), nameX_fit hx (by omega), nameX_size _ _ _⟩
    · split at h
      · cases h
      · rename_i i hi
        split at h
        · cases h
        · rename_i j hj
          cases h
          obtain ⟨f1, f2, _⟩ := freeB_some hi
          have hk := kept_tookV hv f1 f2
          obtain ⟨g1, g2, _⟩ := freeB_some hj
          have hk2 := kept_tookV hk.ok g1 g2
          rw [hk.dat] at g1
          rw [hk.len] at g2
          exact ⟨g1, g2, (hk.trans hk2).trans (kept_nameV hk2.ok (hk.trans hk2).dat.symm), nameX_fit (setI_fit hx (by omega)) (by omega), nameX_size _ _ _⟩
  · rename_i hne
    cases h
    obtain ⟨h1, h2⟩ := atN_lt' hne
    exact ⟨h1, h2, .rfl hv, hx, rfl⟩

/-- A block with a piece in it. -/
def over (s : Blk) (o : Nat) (p : Blk) : Blk := s.take o ++ p ++ s.drop (o + p.length)
theorem over_length (s : Blk) (o : Nat) (p : Blk) (h : o + p.length ≤ s.length) : (over s o p).length = s.length := by
  simp [over]
  omega
/-- Bytes are written, block by block. -/
def wrV : Nat → Vol → Ino → Nat → Blk → Option (Vol × Ino)
  | 0, v, x, _, _ => some (v, x)
  | m + 1, v, x, a, t =>
    if t = [] then some (v, x) else
    match placeV v x (a / 128) with
    | none => none
    | some (b, v1, x1) => wrV m (v1.set b (over (bk v1 b) (a % 128) (t.take (128 - a % 128)))) x1 (a + (t.take (128 - a % 128)).length) (t.drop (t.take (128 - a % 128)).length)
theorem wrV_nil (m : Nat) (v : Vol) (x : Ino) (a : Nat) : wrV m v x a [] = some (v, x) := by
  cases m with
  | zero => rfl
  | succ m => rw [wrV, if_pos rfl]
/-- What a write answers, of an inode that is: the error, the volume. -/
def writeV (v : Vol) (n off : Nat) (t : Blk) : Int × Vol :=
  if 8960 < off ∨ 8960 < off + t.length then (6, []) else
  if t = [] then (0, v) else
  match wrV t.length v (inoV v n) off t with
  | none => (10, [])
  | some (v', x') => (0, putV v' n (if min x'.size 8960 < off + t.length then x'.setS (off + t.length) else x'))
end Go.Proofs.Ytacdohlhalnioaa

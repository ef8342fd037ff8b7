/- Joined: XBB XY1 XY2 XY3 XY4 XY5 XY6. -/
import Derived.Test.YtacdohlhalnioaaJ7
import Derived.Test.YtacdohlhalnioaaJG
/- Bytes: a number put into two bytes, pieces that are joined, two rows of the same bytes. -/
section
set_option linter.unusedVariables false
set_option linter.unusedSimpArgs false
set_option maxRecDepth 20000
namespace Go.Proofs.Ytacdohlhalnioaa
open Go.RowKit

def setB (s : Blk) (p m : Nat) : Blk := s.take p ++ ple m 2 ++ s.drop (p + 2)
theorem setB_length (s : Blk) (p m : Nat) (h : p + 2 ≤ s.length) : (setB s p m).length = s.length := by
  simp [setB, ple_length]
  omega
theorem gb_append_left (a b : Blk) (i : Nat) (h : i < a.length) : gb (a ++ b) i = gb a i := by
  simp [gb, List.getD_eq_getElem?_getD, List.getElem?_append_left h]
theorem gb_append_right (a b : Blk) (i : Nat) (h : a.length ≤ i) : gb (a ++ b) i = gb b (i - a.length) := by
  simp [gb, List.getD_eq_getElem?_getD, List.getElem?_append_right h]
theorem gb_ple (m k j : Nat) (h : j < k) : gb (ple m k) j = m / 256 ^ j % 256 := by
  simp [gb, List.getD_eq_getElem?_getD, ple_get m k j h]
theorem gb_setB (s : Blk) (p m i : Nat) (h : p + 2 ≤ s.length) : gb (setB s p m) i = if i = p then m % 256 else if i = p + 1 then m / 256 % 256 else gb s i := by
  have h1 : (s.take p).length = p := by rw [List.length_take]; omega
  have h2 : (s.take p ++ ple m 2).length = p + 2 := by rw [List.length_append, h1, ple_length]
  rw [setB]
  by_cases h3 : i < p
  · rw [if_neg (by omega), if_neg (by omega), gb_append_left _ _ _ (by omega), gb_append_left _ _ _ (by omega), gb_take _ _ _ h3]
  · by_cases h4 : i < p + 2
    · rw [gb_append_left _ _ _ (by omega), gb_append_right _ _ _ (by omega), h1, gb_ple _ _ _ (by omega)]
      rcases (by omega : i = p ∨ i = p + 1) with rfl | rfl
      · simp
      · simp
    · rw [if_neg (by omega), if_neg (by omega), gb_append_right _ _ _ (by omega), h2, gb_drop]
      congr 1
      omega
theorem blk_ext {a b : Blk} (hl : a.length = b.length) (h : ∀ i, i < a.length → gb a i = gb b i) : a = b := by
  refine List.ext_getElem hl (fun i h1 h2 => ?_)
  have := h i h1
  simp only [gb, List.getD_eq_getElem?_getD, List.getElem?_eq_getElem h1, List.getElem?_eq_getElem h2, Option.getD_some] at this
  exact UInt8.toNat_inj.1 this
end Go.Proofs.Ytacdohlhalnioaa
end

/- The pure law of inodes: what is put is got. -/
section
set_option linter.unusedVariables false
set_option linter.unusedSimpArgs false
set_option maxRecDepth 20000
namespace Go.Proofs.Ytacdohlhalnioaa
open Go.RowKit

theorem inoBytes_list (x : Ino) : inoBytes x = [UInt8.ofNat x.kind, UInt8.ofNat x.owner, UInt8.ofNat x.links, UInt8.ofNat (x.links / 256), UInt8.ofNat x.size, UInt8.ofNat (x.size / 256), UInt8.ofNat (x.size / 256 / 256), UInt8.ofNat (x.size / 256 / 256 / 256), UInt8.ofNat x.d0, UInt8.ofNat (x.d0 / 256), UInt8.ofNat x.d1, UInt8.ofNat (x.d1 / 256), UInt8.ofNat x.d2, UInt8.ofNat (x.d2 / 256), UInt8.ofNat x.d3, UInt8.ofNat (x.d3 / 256), UInt8.ofNat x.d4, UInt8.ofNat (x.d4 / 256), UInt8.ofNat x.d5, UInt8.ofNat (x.d5 / 256), UInt8.ofNat x.ind, UInt8.ofNat (x.ind / 256), UInt8.ofNat x.ext, UInt8.ofNat (x.ext / 256)] := rfl
theorem inoBytes_length (x : Ino) : (inoBytes x).length = 24 := by rw [inoBytes_list]; rfl
theorem inoOf_bytes {x : Ino} (h : fitI x) (r : Blk) : inoOf (inoBytes x ++ r) = x := by
  obtain ⟨h0, h1, h2, h3, h4, h5, h6, h7, h8, h9, h10, h11⟩ := fitI_iff.1 h
  cases x
  simp only at *
  rw [inoBytes_list]
  simp only [inoOf, w2, gb, List.cons_append, List.nil_append, List.getD_cons_zero, List.getD_cons_succ, UInt8.toNat_ofNat', Ino.mk.injEq]
  omega
theorem gb_over (s : Blk) (o : Nat) (p : Blk) (h : o + p.length ≤ s.length) (j : Nat) : gb (over s o p) j = if o ≤ j ∧ j < o + p.length then gb p (j - o) else gb s j := by
  have hl : (s.take o).length = o := by rw [List.length_take]; omega
  rw [over]
  by_cases h1 : j < o
  · rw [if_neg (by omega), List.append_assoc, gb_append_left _ _ _ (by omega), gb_take _ _ _ h1]
  · by_cases h2 : j < o + p.length
    · rw [if_pos (by omega), gb_append_left _ _ _ (by rw [List.length_append]; omega), gb_append_right _ _ _ (by omega), hl]
    · rw [if_neg (by omega), gb_append_right _ _ _ (by rw [List.length_append]; omega), gb_drop, List.length_append, hl]
      congr 1
      omega
theorem gb_slot (v : Vol) (n i : Nat) (h : i < 64) : gb (slot v n) i = gb (bk v (3 + (n - 1) / 2)) ((n - 1) % 2 * 64 + i) := by
  rw [slot, gb_take _ _ _ h, gb_drop]
theorem putV_over {v : Vol} {n : Nat} {x : Ino} : putV v n x = v.set (3 + (n - 1) / 2) (over (bk v (3 + (n - 1) / 2)) ((n - 1) % 2 * 64) (inoBytes x)) := by
  rw [putV, over, inoBytes_length]
theorem inoOf_congr {s t : Blk} (h : ∀ i, i < 24 → gb s i = gb t i) : inoOf s = inoOf t := by
  simp only [inoOf, w2, h 0 (by omega), h 1 (by omega), h 2 (by omega), h 3 (by omega), h 4 (by omega), h 5 (by omega), h 6 (by omega), h 7 (by omega), h 8 (by omega), h 9 (by omega), h 10 (by omega), h 11 (by omega), h 12 (by omega), h 13 (by omega), h 14 (by omega), h 15 (by omega), h 16 (by omega), h 17 (by omega), h 18 (by omega), h 19 (by omega), h 20 (by omega), h 21 (by omega), h 22 (by omega), h 23 (by omega)]
/-- What is put is got. -/
theorem inoV_put_same {v : Vol} {n : Nat} {x : Ino} (hv : okV v = true) (h1 : 1 ≤ n) (h2 : n ≤ inosV v) (hx : fitI x) : inoV (putV v n x) n = x := by
  obtain ⟨hl, h128, _⟩ := slot_facts hv h1 h2
  have hb := inoBytes_length x
  rw [inoV, inoOf_congr (t := inoBytes x) (fun i hi => ?_)]
  · have := inoOf_bytes hx []
    rwa [List.append_nil] at this
  · rw [gb_slot _ _ _ (by omega), putV_over, bk_set_same _ _ _ hl, gb_over _ _ _ (by omega), if_pos (by omega)]
    congr 1
    omega
/-- All other inodes stay. -/
theorem inoV_put_other {v : Vol} {n m : Nat} {x : Ino} (hv : okV v = true) (h1 : 1 ≤ n) (h2 : n ≤ inosV v) (hm : 1 ≤ m) (hne : m ≠ n) : inoV (putV v n x) m = inoV v m := by
  obtain ⟨hl, h128, _⟩ := slot_facts hv h1 h2
  have hb := inoBytes_length x
  rw [inoV, inoV]
  refine inoOf_congr (fun i hi => ?_)
  rw [gb_slot _ _ _ (by omega), gb_slot _ _ _ (by omega), putV_over]
  by_cases h : 3 + (n - 1) / 2 = 3 + (m - 1) / 2
  · rw [h, bk_set_same _ _ _ (by omega), ← h, gb_over _ _ _ (by omega), if_neg (by omega)]
  · rw [bk_set_other _ _ _ _ h]
theorem bk_put_data {v : Vol} {n b : Nat} {x : Ino} (h1 : 1 ≤ n) (h2 : n ≤ inosV v) (hb : dataV v ≤ b) : bk (putV v n x) b = bk v b := by
  rw [putV]
  exact bk_set_other _ _ _ _ (by rw [dataV] at hb; omega)
theorem bk_put_low {v : Vol} {n b : Nat} {x : Ino} (hb : b < 3) : bk (putV v n x) b = bk v b := by
  rw [putV]
  exact bk_set_other _ _ _ _ (by omega)
theorem kept_put {v : Vol} {n : Nat} {x : Ino} (hv : okV v = true) (h1 : 1 ≤ n) (h2 : n ≤ inosV v) : Kept v (putV v n x) := by
  obtain ⟨hl, h128, _⟩ := slot_facts hv h1 h2
  have hb := inoBytes_length x
  rw [putV_over]
  exact kept_set hv (by omega) (by rw [over_length _ _ _ (by omega), h128])
theorem putV_putV {v : Vol} {n : Nat} {x y : Ino} (hv : okV v = true) (h1 : 1 ≤ n) (h2 : n ≤ inosV v) : putV (putV v n x) n y = putV v n y := by
  obtain ⟨hl, h128, _⟩ := slot_facts hv h1 h2
  have hb := inoBytes_length x
  have hy := inoBytes_length y
  have hol := over_length (bk v (3 + (n - 1) / 2)) ((n - 1) % 2 * 64) (inoBytes x) (by omega)
  rw [putV_over, putV_over (v := v), bk_set_same _ _ _ hl, List.set_set, putV_over]
  congr 1
  refine blk_ext ?_ (fun i hi => ?_)
  · rw [over_length _ _ _ (by omega), over_length _ _ _ (by omega), over_length _ _ _ (by omega)]
  · rw [gb_over _ _ _ (by omega), gb_over _ _ _ (by omega), gb_over _ _ _ (by omega)]
    by_cases h : (n - 1) % 2 * 64 ≤ i ∧ i < (n - 1) % 2 * 64 + (inoBytes y).length
    · rw [if_pos h, if_pos h]
    · rw [if_neg h, if_neg h, if_neg (by omega)]
end Go.Proofs.Ytacdohlhalnioaa
end

/- The pure law of files: which blocks an inode names, and what turns and what stays with each small step. -/
section
set_option linter.unusedVariables false
set_option linter.unusedSimpArgs false
set_option maxRecDepth 20000
namespace Go.Proofs.Ytacdohlhalnioaa
open Go.RowKit

theorem gb_setm (m : Blk) (i j n : Nat) (hi : i < m.length) : gb (m.set i (UInt8.ofNat n)) j = if j = i then n % 256 else gb m j := by
  rw [show UInt8.ofNat n = UInt8.ofNat (n % 256) from UInt8.toNat_inj.1 (by simp), gb_set _ _ _ _ (by omega) hi]
theorem w2_put2 (s : Blk) (a n i : Nat) (ha : a + 2 ≤ s.length) (hn : n < 65536) (hi : i = a ∨ i + 2 ≤ a ∨ a + 2 ≤ i) : w2 (put2 s a n) i = if i = a then n else w2 s i := by
  have h1 : ∀ j, gb (put2 s a n) j = if j = a + 1 then n / 256 % 256 else if j = a then n % 256 else gb s j := fun j => by
    rw [put2, gb_setm _ _ _ _ (by rw [List.length_set]; omega), gb_setm _ _ _ _ (by omega)]
  rw [w2, h1, h1]
  by_cases h : i = a
  · subst h
    rw [if_neg (by omega), if_pos rfl, if_pos rfl, if_pos rfl]
    omega
  · rw [if_neg (by omega), if_neg h, if_neg (by omega), if_neg (by omega), if_neg h, w2]

/-- A block of the data, or 0. -/
def gz (d L b : Nat) : Nat := if goodN d L b = true then b else 0
/-- The block that an inode names under a key: its 70 blocks, the one of the numbers, the extra one; 0: none. -/
def refV (v : Vol) (x : Ino) (κ : Nat) : Nat := if κ < 70 then atN (dataV v) v.length v x κ else if κ = 70 then gz (dataV v) v.length x.ind else gz (dataV v) v.length x.ext
theorem gz_lt {d L b : Nat} (h : gz d L b ≠ 0) : d ≤ gz d L b ∧ gz d L b < L := by
  unfold gz at h ⊢
  split
  · rename_i hg; exact goodN_iff.1 hg
  · rename_i hg; rw [if_neg hg] at h; exact absurd rfl h
theorem refV_lt {v : Vol} {x : Ino} {κ : Nat} (h : refV v x κ ≠ 0) : dataV v ≤ refV v x κ ∧ refV v x κ < v.length := by
  unfold refV at h ⊢
  split
  · rename_i h1; rw [if_pos h1] at h; exact atN_lt' h
  · rename_i h1
    rw [if_neg h1] at h
    split
    · rename_i h2; rw [if_pos h2] at h; exact gz_lt h
    · rename_i h2; rw [if_neg h2] at h; exact gz_lt h
theorem refV_at (v : Vol) (x : Ino) {k : Nat} (hk : k < 70) : refV v x k = atN (dataV v) v.length v x k := by rw [refV, if_pos hk]
theorem refV_ind (v : Vol) (x : Ino) (h : goodN (dataV v) v.length x.ind = true) : refV v x 70 = x.ind := by
  rw [refV, if_neg (by omega), if_pos rfl, gz, if_pos h]
theorem refV_noind (v : Vol) (x : Ino) (h : goodN (dataV v) v.length x.ind = false) : refV v x 70 = 0 := by
  rw [refV, if_neg (by omega), if_pos rfl, gz, if_neg (by rw [h]; simp)]
theorem goodN_zero (v : Vol) (L : Nat) : goodN (dataV v) L 0 = false := by
  have := dataV_pos v
  cases h : goodN (dataV v) L 0
  · rfl
  · have := (goodN_iff.1 h).1
    omega
theorem numV_far {d L : Nat} {v : Vol} {x : Ino} {k : Nat} (hk : 6 ≤ k) : numV d L v x k = if goodN d L x.ind = true then w2 (bk v x.ind) (2 * (k - 6)) else 0 := by rw [numV, if_neg (by omega)]
theorem numV_near {d L : Nat} {v : Vol} {x : Ino} {k : Nat} (hk : k < 6) : numV d L v x k = x.list.getD (4 + k) 0 := by rw [numV, if_pos hk]
theorem refV_far0 (v : Vol) (x : Ino) {k : Nat} (hk : 6 ≤ k) (h70 : k < 70) (h : goodN (dataV v) v.length x.ind = false) : refV v x k = 0 := by
  rw [refV_at _ _ h70, atN, numV_far hk, h]
  simp only [Bool.false_eq_true, if_false, ite_self]
/-- What an inode names turns on the volume's form and the block of the numbers alone. -/
theorem refV_congr {v v' : Vol} {x : Ino} (hk : Kept v v') (h : goodN (dataV v) v.length x.ind = true → bk v' x.ind = bk v x.ind) (κ : Nat) : refV v' x κ = refV v x κ := by
  have e : ∀ k, numV (dataV v) v.length v' x k = numV (dataV v) v.length v x k := fun k => by
    rw [numV, numV]
    split
    · rfl
    · split
      · rename_i hg; rw [h hg]
      · rfl
  rw [refV, refV, hk.dat, hk.len, atN, atN, e]
/-- The bytes of the k-th block: zeros of a hole. -/
def blkV (v : Vol) (x : Ino) (k : Nat) : Blk := if refV v x k = 0 then zs 128 else bk v (refV v x k)
theorem blkV_congr {v v' : Vol} {x x' : Ino} {k : Nat} (h : refV v' x' k = refV v x k) (hb : refV v x k ≠ 0 → bk v' (refV v x k) = bk v (refV v x k)) : blkV v' x' k = blkV v x k := by
  rw [blkV, blkV, h]
  split
  · rfl
  · rename_i h0; exact hb h0

/-- Of some inodes all blocks are taken, and no two are one. -/
structure Sd (S : Nat → Prop) (v : Vol) (f : Nat → Ino) : Prop where
  bits : ∀ n κ, S n → κ < 72 → refV v (f n) κ ≠ 0 → bit (bk v 2) (refV v (f n) κ) = true
  inj : ∀ n κ m l, S n → S m → κ < 72 → l < 72 → refV v (f n) κ ≠ 0 → refV v (f n) κ = refV v (f m) l → n = m ∧ κ = l
/-- No inode names b. -/
def Un (S : Nat → Prop) (v : Vol) (f : Nat → Ino) (b : Nat) : Prop := ∀ m κ, S m → κ < 72 → refV v (f m) κ ≠ b
def upd (f : Nat → Ino) (n : Nat) (x : Ino) : Nat → Ino := fun m => if m = n then x else f m
theorem upd_same (f : Nat → Ino) (n : Nat) (x : Ino) : upd f n x n = x := if_pos rfl
theorem upd_other (f : Nat → Ino) {n m : Nat} (x : Ino) (h : m ≠ n) : upd f n x m = f m := if_neg h
theorem upd_upd (f : Nat → Ino) (n : Nat) (x y : Ino) : upd (upd f n x) n y = upd f n y := by
  funext m
  by_cases h : m = n
  · subst h; rw [upd_same, upd_same]
  · rw [upd_other _ _ h, upd_other _ _ h, upd_other _ _ h]
theorem upd_self (f : Nat → Ino) (n : Nat) : upd f n (f n) = f := by
  funext m
  by_cases h : m = n
  · subst h; rw [upd_same]
  · rw [upd_other _ _ h]
/-- A free block is named by none. -/
theorem Sd.un {S : Nat → Prop} {v : Vol} {f : Nat → Ino} (h : Sd S v f) {b : Nat} (h0 : b ≠ 0) (hb : bit (bk v 2) b = false) : Un S v f b := fun m κ hm hκ e => by
  have := h.bits m κ hm hκ (by rw [e]; exact h0)
  rw [e, hb] at this
  cases this
theorem Sd.ind_of {S : Nat → Prop} {v : Vol} {f : Nat → Ino} {b m : Nat} (hu : Un S v f b) (hm : S m) (hg : goodN (dataV v) v.length (f m).ind = true) : (f m).ind ≠ b := by
  have := hu m 70 hm (by omega)
  rwa [refV_ind _ _ hg] at this

/-! A block is taken. -/
theorem bits_took {v : Vol} (hv : okV v = true) {b : Nat} (h1 : dataV v ≤ b) (h2 : b < v.length) (hf : bit (bk v 2) b = false) (j : Nat) : bit (bk (tookV v b) 2) j = (decide (j = b) || bit (bk v 2) j) := by
  have hd := dataV_pos v
  have H := okV_iff.1 hv
  have hlo := H.lo
  have hhi := H.hi
  rw [tookV, bk_set_other _ _ _ _ (by omega), bk_set_same _ _ _ (by omega), bit_turn _ _ _ (H.size 2 (by omega)) (by omega)]
  by_cases h : j = b
  · subst h; rw [if_pos rfl, hf]; simp
  · rw [if_neg h]; simp [h]
theorem bk_took {v : Vol} {b j : Nat} (h2 : j ≠ 2) (hb : j ≠ b) : bk (tookV v b) j = bk v j := by
  rw [tookV, bk_set_other _ _ _ _ (Ne.symm hb), bk_set_other _ _ _ _ (Ne.symm h2)]
theorem bk_took_same {v : Vol} {b : Nat} (h : b < v.length) : bk (tookV v b) b = zs 128 := by
  rw [tookV, bk_set_same _ _ _ (by simpa using h)]
theorem ref_took {v : Vol} {x : Ino} (hv : okV v = true) {b : Nat} (h1 : dataV v ≤ b) (h2 : b < v.length) (hx : goodN (dataV v) v.length x.ind = true → x.ind ≠ b) (κ : Nat) : refV (tookV v b) x κ = refV v x κ := by
  have hd := dataV_pos v
  refine refV_congr (kept_tookV hv h1 h2) (fun hg => bk_took ?_ (hx hg)) κ
  have := (goodN_iff.1 hg).1
  omega
theorem blk_took {v : Vol} {x : Ino} (hv : okV v = true) {b : Nat} (h1 : dataV v ≤ b) (h2 : b < v.length) (hx : ∀ κ, κ < 72 → refV v x κ ≠ b) {k : Nat} (hk : k < 70) : blkV (tookV v b) x k = blkV v x k := by
  have hd := dataV_pos v
  refine blkV_congr (ref_took hv h1 h2 (fun hg => ?_) k) (fun h0 => bk_took ?_ (hx k (by omega)))
  · have := hx 70 (by omega)
    rwa [refV_ind _ _ hg] at this
  · have := (refV_lt h0).1
    omega
theorem sd_took {S : Nat → Prop} {v : Vol} {f : Nat → Ino} (hv : okV v = true) (hs : Sd S v f) {b : Nat} (h1 : dataV v ≤ b) (h2 : b < v.length) (hf : bit (bk v 2) b = false) : Sd S (tookV v b) f ∧ Un S (tookV v b) f b := by
  have hd := dataV_pos v
  have hu := hs.un (by omega) hf
  have hr : ∀ m κ, S m → refV (tookV v b) (f m) κ = refV v (f m) κ := fun m κ hm => ref_took hv h1 h2 (Sd.ind_of hu hm) κ
  refine ⟨⟨fun n κ hn hκ h0 => ?_, fun n κ m l hn hm hκ hl h0 e => ?_⟩, fun m κ hm hκ => by rw [hr m κ hm]; exact hu m κ hm hκ⟩
  · rw [hr n κ hn] at h0 ⊢
    rw [bits_took hv h1 h2 hf, hs.bits n κ hn hκ h0, Bool.or_true]
  · rw [hr n κ hn] at h0 e
    rw [hr m l hm] at e
    exact hs.inj n κ m l hn hm hκ hl h0 e

/-! A block is given back. -/
theorem bits_give {v : Vol} (hv : okV v = true) {b : Nat} (h1 : dataV v ≤ b) (h2 : b < v.length) (j : Nat) : bit (bk (giveV v b) 2) j = (!decide (j = b) && bit (bk v 2) j) := by
  have hd := dataV_pos v
  have H := okV_iff.1 hv
  have hlo := H.lo
  have hhi := H.hi
  unfold giveV
  split
  · rename_i hf
    rw [bk_set_same _ _ _ (by omega), bit_turn _ _ _ (H.size 2 (by omega)) (by omega)]
    by_cases h : j = b
    · subst h; rw [if_pos rfl, hf]; simp
    · rw [if_neg h]; simp [h]
  · rename_i hf
    by_cases h : j = b
    · subst h; simp at hf; simp [hf]
    · simp [h]
theorem bk_give {v : Vol} {b j : Nat} (h2 : j ≠ 2) : bk (giveV v b) j = bk v j := by
  unfold giveV
  split
  · exact bk_set_other _ _ _ _ (Ne.symm h2)
  · rfl
theorem ref_give {v : Vol} {x : Ino} (hv : okV v = true) {b : Nat} (h1 : dataV v ≤ b) (h2 : b < v.length) (κ : Nat) : refV (giveV v b) x κ = refV v x κ := by
  have hd := dataV_pos v
  refine refV_congr (kept_giveV hv h1 h2) (fun hg => bk_give ?_) κ
  have := (goodN_iff.1 hg).1
  omega
theorem blk_give {v : Vol} {x : Ino} (hv : okV v = true) {b : Nat} (h1 : dataV v ≤ b) (h2 : b < v.length) (k : Nat) : blkV (giveV v b) x k = blkV v x k := by
  have hd := dataV_pos v
  refine blkV_congr (ref_give hv h1 h2 k) (fun h0 => bk_give ?_)
  have := (refV_lt h0).1
  omega
theorem sd_give {S : Nat → Prop} {v : Vol} {f : Nat → Ino} (hv : okV v = true) (hs : Sd S v f) {b : Nat} (h1 : dataV v ≤ b) (h2 : b < v.length) (hu : Un S v f b) : Sd S (giveV v b) f := by
  have hr : ∀ m κ, refV (giveV v b) (f m) κ = refV v (f m) κ := fun m κ => ref_give hv h1 h2 κ
  refine ⟨fun n κ hn hκ h0 => ?_, fun n κ m l hn hm hκ hl h0 e => ?_⟩
  · rw [hr n κ] at h0 ⊢
    rw [bits_give hv h1 h2, hs.bits n κ hn hκ h0]
    simp [hu n κ hn hκ]
  · rw [hr n κ] at h0 e
    rw [hr m l] at e
    exact hs.inj n κ m l hn hm hκ hl h0 e

/-! A number is written down. -/
theorem list_setD (x : Ino) {k j b : Nat} (hk : k < 6) (hj : j < 6) : (x.setD k b).list.getD (4 + j) 0 = if j = k then b else x.list.getD (4 + j) 0 := by
  rcases (by omega : k = 0 ∨ k = 1 ∨ k = 2 ∨ k = 3 ∨ k = 4 ∨ k = 5) with rfl | rfl | rfl | rfl | rfl | rfl <;>
    rcases (by omega : j = 0 ∨ j = 1 ∨ j = 2 ∨ j = 3 ∨ j = 4 ∨ j = 5) with rfl | rfl | rfl | rfl | rfl | rfl <;> rfl
theorem nameX_ind (x : Ino) (k b : Nat) : (nameX x k b).ind = x.ind := by unfold nameX; split <;> rfl
theorem nameX_ext (x : Ino) (k b : Nat) : (nameX x k b).ext = x.ext := by unfold nameX; split <;> rfl
theorem bk_name {v : Vol} {x : Ino} {k b j : Nat} (h : goodN (dataV v) v.length x.ind = true → j ≠ x.ind) : bk (nameV (dataV v) v x k b) j = bk v j := by
  unfold nameV
  split
  · rfl
  · split
    · rename_i hg; exact bk_set_other _ _ _ _ (Ne.symm (h hg))
    · rfl
/-- What the inode itself names then. -/
theorem ref_name {v : Vol} {x : Ino} {k b : Nat} (hv : okV v = true) (hk : k < 70) (hb : b < 65536) (hg : k < 6 ∨ goodN (dataV v) v.length x.ind = true) (κ : Nat) :
    refV (nameV (dataV v) v x k b) (nameX x k b) κ = if κ = k then (if goodN (dataV v) v.length b = true then b else 0) else refV v x κ := by
  have hK : Kept v (nameV (dataV v) v x k b) := kept_nameV hv rfl
  have H := okV_iff.1 hv
  by_cases h70 : κ < 70
  · rw [refV_at _ _ h70, refV_at _ _ h70, hK.dat, hK.len]
    have e : numV (dataV v) v.length (nameV (dataV v) v x k b) (nameX x k b) κ = if κ = k then b else numV (dataV v) v.length v x κ := by
      by_cases hk6 : k < 6
      · rw [nameV, nameX, if_pos hk6, if_pos hk6]
        by_cases hκ : κ < 6
        · rw [numV_near hκ, numV_near hκ, list_setD x hk6 hκ]
        · rw [numV_far (by omega), numV_far (by omega), if_neg (show ¬ κ = k by omega)]
          rfl
      · have hg' := hg.resolve_left hk6
        have hgl := (goodN_iff.1 hg').2
        rw [nameV, nameX, if_neg hk6, if_neg hk6, if_pos hg']
        by_cases hκ : κ < 6
        · rw [numV_near hκ, numV_near hκ, if_neg (show ¬ κ = k by omega)]
        · rw [numV_far (by omega), numV_far (by omega), if_pos hg', if_pos hg', bk_set_same _ _ _ hgl, w2_put2 _ _ _ _ (by rw [H.size _ hgl]; omega) hb (by omega)]
          by_cases e : κ = k
          · rw [if_pos e, if_pos (by omega)]
          · rw [if_neg e, if_neg (by omega)]
    rw [atN, atN, e]
    split <;> rfl
  · rw [refV, refV, if_neg h70, if_neg h70, hK.dat, hK.len, nameX_ind, nameX_ext, if_neg (show ¬ κ = k by omega)]
/-- No other inode names anything else. -/
theorem ref_name_other {v : Vol} {x y : Ino} {k b : Nat} (hv : okV v = true) (h : goodN (dataV v) v.length x.ind = true → goodN (dataV v) v.length y.ind = true → y.ind ≠ x.ind) (κ : Nat) : refV (nameV (dataV v) v x k b) y κ = refV v y κ :=
  refV_congr (kept_nameV hv rfl) (fun hg => bk_name (fun hg2 => h hg2 hg)) κ
end Go.Proofs.Ytacdohlhalnioaa
end

/- The pure law of files: a block is placed. -/
section
set_option linter.unusedVariables false
set_option linter.unusedSimpArgs false
set_option maxRecDepth 20000
namespace Go.Proofs.Ytacdohlhalnioaa
open Go.RowKit

/-- What a number written down turns, and what it leaves. -/
structure Named (S : Nat → Prop) (v : Vol) (f : Nat → Ino) (n k b : Nat) (v' : Vol) (x' : Ino) : Prop where
  own : ∀ κ, refV v' x' κ = if κ = k then b else refV v (f n) κ
  oth : ∀ m, S m → m ≠ n → ∀ κ, refV v' (f m) κ = refV v (f m) κ
  sd : Sd S v' (upd f n x')
  map : bk v' 2 = bk v 2
  blk : ∀ m, S m → ∀ j, j < 70 → (m ≠ n ∨ j ≠ k) → blkV v' (upd f n x' m) j = blkV v (f m) j
  here : b ≠ 0 → bk v' b = bk v b
theorem name_eff {S : Nat → Prop} {v : Vol} {f : Nat → Ino} {n k b : Nat} (hv : okV v = true) (hs : Sd S v f) (hn : S n) (hk : k < 70) (hb : b < 65536) (hg : k < 6 ∨ goodN (dataV v) v.length (f n).ind = true)
    (hbb : b ≠ 0 → goodN (dataV v) v.length b = true ∧ bit (bk v 2) b = true ∧ Un S v f b) : Named S v f n k b (nameV (dataV v) v (f n) k b) (nameX (f n) k b) := by
  have hd := dataV_pos v
  have own : ∀ κ, refV (nameV (dataV v) v (f n) k b) (nameX (f n) k b) κ = if κ = k then b else refV v (f n) κ := fun κ => by
    rw [ref_name hv hk hb hg κ]
    by_cases e : κ = k
    · rw [if_pos e, if_pos e]
      by_cases h0 : b = 0
      · subst h0; rw [ite_self]
      · rw [if_pos (hbb h0).1]
    · rw [if_neg e, if_neg e]
  have oth : ∀ m, S m → m ≠ n → ∀ κ, refV (nameV (dataV v) v (f n) k b) (f m) κ = refV v (f m) κ := fun m hm hmn κ => by
    refine ref_name_other hv (fun g1 g2 e => ?_) κ
    have r1 := refV_ind v (f n) g1
    have r2 := refV_ind v (f m) g2
    exact hmn (hs.inj m 70 n 70 hm hn (by omega) (by omega) (by rw [r2]; have := (goodN_iff.1 g2).1; omega) (by rw [r1, r2, e])).1
  have map : bk (nameV (dataV v) v (f n) k b) 2 = bk v 2 := bk_name (fun g e => by have := (goodN_iff.1 g).1; omega)
  have here : b ≠ 0 → bk (nameV (dataV v) v (f n) k b) b = bk v b := fun h0 => bk_name (fun g e => by
    have := (hbb h0).2.2 n 70 hn (by omega)
    rw [refV_ind _ _ g] at this
    exact this e.symm)
  have hr : ∀ m, S m → ∀ κ, refV (nameV (dataV v) v (f n) k b) (upd f n (nameX (f n) k b) m) κ = if m = n ∧ κ = k then b else refV v (f m) κ := fun m hm κ => by
    by_cases h : m = n
    · subst h
      rw [upd_same, own]
      by_cases e : κ = k
      · rw [if_pos e, if_pos ⟨rfl, e⟩]
      · rw [if_neg e, if_neg (fun h => e h.2)]
    · rw [upd_other _ _ h, oth m hm h, if_neg (fun e => h e.1)]
  refine ⟨own, oth, ⟨fun m κ hm hκ h0 => ?_, fun m κ p l hm hp hκ hl h0 e => ?_⟩, map, fun m hm j hj hmj => ?_, here⟩
  · rw [hr m hm] at h0 ⊢
    rw [map]
    by_cases h : m = n ∧ κ = k
    · rw [if_pos h] at h0 ⊢
      exact (hbb h0).2.1
    · rw [if_neg h] at h0 ⊢
      exact hs.bits m κ hm hκ h0
  · rw [hr m hm] at h0 e
    rw [hr p hp] at e
    by_cases h : m = n ∧ κ = k
    · rw [if_pos h] at h0 e
      by_cases h2 : p = n ∧ l = k
      · exact ⟨h.1.trans h2.1.symm, h.2.trans h2.2.symm⟩
      · rw [if_neg h2] at e
        exact absurd e.symm ((hbb h0).2.2 p l hp hl)
    · rw [if_neg h] at h0 e
      by_cases h2 : p = n ∧ l = k
      · rw [if_pos h2] at e
        exact absurd e ((hbb (by rw [← e]; exact h0)).2.2 m κ hm hκ)
      · rw [if_neg h2] at e
        exact hs.inj m κ p l hm hp hκ hl h0 e
  · refine blkV_congr ?_ (fun h0 => bk_name (fun g e => ?_))
    · rw [hr m hm, if_neg (fun h => by omega)]
    · have r1 := refV_ind v (f n) g
      have := (hs.inj m j n 70 hm hn (by omega) (by omega) h0 (by rw [r1, e])).2
      omega

/-- How many blocks are free. -/
def freeN (v : Vol) : Nat := (List.range v.length).countP fun j => decide (dataV v ≤ j) && !bit (bk v 2) j
theorem countP_less (p q : Nat → Bool) (b : Nat) (hp : p b = true) (hq : ∀ j, q j = (!decide (j = b) && p j)) (n : Nat) : (List.range n).countP p = (List.range n).countP q + (if b < n then 1 else 0) := by
  induction n with
  | zero => simp
  | succ n ih =>
    rw [List.range_succ, List.countP_append, List.countP_append, ih, List.countP_singleton, List.countP_singleton, hq n]
    by_cases h : n = b
    · subst h
      simp [hp]
    · by_cases h2 : b < n
      · simp [h, h2, show b < n + 1 by omega]
        omega
      · simp [h, h2, show ¬ b < n + 1 by omega]
theorem free_took {v : Vol} (hv : okV v = true) {b : Nat} (h1 : dataV v ≤ b) (h2 : b < v.length) (hf : bit (bk v 2) b = false) : freeN v = freeN (tookV v b) + 1 := by
  have hk := kept_tookV hv h1 h2
  rw [freeN, freeN, hk.len, hk.dat, countP_less _ (fun j => decide (dataV v ≤ j) && !bit (bk (tookV v b) 2) j) b (by simp [h1, hf]) (fun j => ?_) v.length, if_pos h2]
  rw [bits_took hv h1 h2 hf]
  cases decide (j = b) <;> simp
theorem free_give {v : Vol} (hv : okV v = true) {b : Nat} (h1 : dataV v ≤ b) (h2 : b < v.length) (hf : bit (bk v 2) b = true) : freeN (giveV v b) = freeN v + 1 := by
  have hk := kept_giveV hv h1 h2
  rw [freeN, freeN, hk.len, hk.dat, countP_less _ (fun j => decide (dataV v ≤ j) && !bit (bk v 2) j) b (by simp [h1, bits_give hv h1 h2]) (fun j => ?_) v.length, if_pos h2]
  rw [bits_give hv h1 h2]
  by_cases e : j = b
  · subst e; simp [hf]
  · simp [e]
theorem free_map {v v' : Vol} (hk : Kept v v') (h : bk v' 2 = bk v 2) : freeN v' = freeN v := by rw [freeN, freeN, hk.len, hk.dat, h]

/-- What a placing turns, and what it leaves. -/
structure Placed (S : Nat → Prop) (v : Vol) (f : Nat → Ino) (n k b : Nat) (v' : Vol) (x' : Ino) : Prop where
  kept : Kept v v'
  fit : fitI x'
  size : x'.size = (f n).size
  kind : x'.kind = (f n).kind
  owner : x'.owner = (f n).owner
  ext : x'.ext = (f n).ext
  at_ : refV v' x' k = b
  pos : b ≠ 0
  own : ∀ κ, κ ≠ k → κ ≠ 70 → refV v' x' κ = refV v (f n) κ
  ind : refV v (f n) 70 ≠ 0 ∨ k < 6 → refV v' x' 70 = refV v (f n) 70
  far : 6 ≤ k → refV v' x' 70 ≠ 0
  oth : ∀ m, S m → m ≠ n → ∀ κ, refV v' (f m) κ = refV v (f m) κ
  sd : Sd S v' (upd f n x')
  blk : ∀ m, S m → ∀ j, j < 70 → blkV v' (upd f n x' m) j = blkV v (f m) j
  room : freeN v = freeN v' + (if refV v (f n) k = 0 then 1 else 0) + (if 6 ≤ k ∧ refV v (f n) 70 = 0 then 1 else 0)
theorem nameX_kind (x : Ino) (k b : Nat) : (nameX x k b).kind = x.kind ∧ (nameX x k b).owner = x.owner := by unfold nameX; split <;> exact ⟨rfl, rfl⟩
theorem gb_zeros (m j : Nat) : gb (zs m) j = 0 := by
  rw [gb, zs, List.getD_eq_getElem?_getD, List.getElem?_replicate]
  split <;> rfl
/-- An inode names the block of its numbers. -/
theorem ref_setI {v : Vol} {x : Ino} {i : Nat} (hg : goodN (dataV v) v.length x.ind = false) (hi : goodN (dataV v) v.length i = true) (hz : bk v i = zs 128) (κ : Nat) : refV v (x.setI i) κ = if κ = 70 then i else refV v x κ := by
  by_cases h : κ < 70
  · rw [if_neg (by omega)]
    by_cases h6 : κ < 6
    · rw [refV_at _ _ h, refV_at _ _ h, atN, atN, numV_near h6, numV_near h6]
      rcases (by omega : κ = 0 ∨ κ = 1 ∨ κ = 2 ∨ κ = 3 ∨ κ = 4 ∨ κ = 5) with rfl | rfl | rfl | rfl | rfl | rfl <;> rfl
    · rw [refV_far0 _ x (by omega) h hg, refV_at _ _ h, atN, numV_far (by omega)]
      have e : w2 (bk v i) (2 * (κ - 6)) = 0 := by
        rw [hz, w2, gb_zeros, gb_zeros]
      have e2 : (if goodN (dataV v) v.length (x.setI i).ind = true then w2 (bk v (x.setI i).ind) (2 * (κ - 6)) else 0) = 0 := by
        split
        · exact e
        · rfl
      rw [e2, goodN_zero]
      simp
  · by_cases h70 : κ = 70
    · subst h70
      rw [if_pos rfl]
      exact refV_ind v (x.setI i) hi
    · rw [if_neg h70, refV, refV, if_neg h, if_neg h, if_neg h70, if_neg h70]
      rfl
theorem setI_eff {S : Nat → Prop} {v : Vol} {f : Nat → Ino} {n i : Nat} (hv : okV v = true) (hs : Sd S v f) (hn : S n) (hg : goodN (dataV v) v.length (f n).ind = false) (hi : goodN (dataV v) v.length i = true) (hz : bk v i = zs 128) (hb : bit (bk v 2) i = true) (hu : Un S v f i) :
    Sd S v (upd f n ((f n).setI i)) ∧ ∀ m, S m → ∀ j, j < 70 → blkV v (upd f n ((f n).setI i) m) j = blkV v (f m) j := by
  have hr : ∀ m, S m → ∀ κ, refV v (upd f n ((f n).setI i) m) κ = if m = n ∧ κ = 70 then i else refV v (f m) κ := fun m hm κ => by
    by_cases h : m = n
    · subst h
      rw [upd_same, ref_setI hg hi hz]
      by_cases e : κ = 70
      · rw [if_pos e, if_pos ⟨rfl, e⟩]
      · rw [if_neg e, if_neg (fun h => e h.2)]
    · rw [upd_other _ _ h, if_neg (fun e => h e.1)]
  refine ⟨⟨fun m κ hm hκ h0 => ?_, fun m κ p l hm hp hκ hl h0 e => ?_⟩, fun m hm j hj => ?_⟩
  · rw [hr m hm] at h0 ⊢
    by_cases h : m = n ∧ κ = 70
    · rw [if_pos h]; exact hb
    · rw [if_neg h] at h0 ⊢; exact hs.bits m κ hm hκ h0
  · rw [hr m hm] at h0 e
    rw [hr p hp] at e
    by_cases h : m = n ∧ κ = 70
    · rw [if_pos h] at h0 e
      by_cases h2 : p = n ∧ l = 70
      · exact ⟨h.1.trans h2.1.symm, h.2.trans h2.2.symm⟩
      · rw [if_neg h2] at e
        exact absurd e.symm (hu p l hp hl)
    · rw [if_neg h] at h0 e
      by_cases h2 : p = n ∧ l = 70
      · rw [if_pos h2] at e
        exact absurd e (hu m κ hm hκ)
      · rw [if_neg h2] at e
        exact hs.inj m κ p l hm hp hκ hl h0 e
  · have e := hr m hm j
    rw [if_neg (fun h => by omega)] at e
    rw [blkV, blkV, e]
end Go.Proofs.Ytacdohlhalnioaa
end

/- The pure law of files: a block is placed: what turns, and what stays. -/
section
set_option linter.unusedVariables false
set_option linter.unusedSimpArgs false
set_option maxRecDepth 20000
namespace Go.Proofs.Ytacdohlhalnioaa
open Go.RowKit

theorem take_name {S : Nat → Prop} {v : Vol} {f : Nat → Ino} {n k b : Nat} (hv : okV v = true) (hs : Sd S v f) (hn : S n) (hx : fitI (f n)) (hk : k < 70) (hg : k < 6 ∨ goodN (dataV v) v.length (f n).ind = true) (h0 : refV v (f n) k = 0) (hb : freeB v = some b) :
    Placed S v f n k b (nameV (dataV v) (tookV v b) (f n) k b) (nameX (f n) k b) := by
  obtain ⟨f1, f2, f3, _⟩ := freeB_some hb
  have hd := dataV_pos v
  have hhi := (okV_iff.1 hv).hi
  have hu := hs.un (b := b) (by omega) f3
  have kT := kept_tookV hv f1 f2
  obtain ⟨sT, uT⟩ := sd_took hv hs f1 f2 f3
  have rT : ∀ m κ, S m → refV (tookV v b) (f m) κ = refV v (f m) κ := fun m κ hm => ref_took hv f1 f2 (Sd.ind_of hu hm) κ
  have hN := name_eff (b := b) kT.ok sT hn hk (by omega) (by rw [kT.dat, kT.len]; exact hg) (fun _ => ⟨goodN_iff.2 ⟨by rw [kT.dat]; exact f1, by rw [kT.len]; exact f2⟩, by rw [bits_took hv f1 f2 f3]; simp, uT⟩)
  rw [kT.dat] at hN
  have kN : Kept (tookV v b) (nameV (dataV v) (tookV v b) (f n) k b) := kept_nameV kT.ok kT.dat.symm
  have hb0 : b ≠ 0 := by omega
  refine ⟨kT.trans kN, nameX_fit hx (by omega), nameX_size _ _ _, (nameX_kind _ _ _).1, (nameX_kind _ _ _).2, nameX_ext _ _ _, by rw [hN.own, if_pos rfl], hb0, fun κ h1 h2 => by rw [hN.own, if_neg h1, rT n κ hn], fun _ => by rw [hN.own, if_neg (by omega), rT n 70 hn], fun h6 => ?_, fun m hm hmn κ => by rw [hN.oth m hm hmn, rT m κ hm], hN.sd, fun m hm j hj => ?_, ?_⟩
  · have hg' := hg.resolve_left (by omega)
    rw [hN.own, if_neg (by omega), rT n 70 hn, refV_ind _ _ hg']
    have := (goodN_iff.1 hg').1
    omega
  · by_cases e : m = n ∧ j = k
    · obtain ⟨rfl, rfl⟩ := e
      rw [upd_same, blkV, blkV, if_pos h0, hN.own, if_pos rfl, if_neg hb0, hN.here hb0, bk_took_same f2]
    · rw [hN.blk m hm j hj (by omega), blk_took hv f1 f2 (fun κ hκ => hu m κ hm hκ) hj]
  · rw [free_map kN hN.map, free_took hv f1 f2 f3, if_pos h0]
    rcases hg with h | h
    · rw [if_neg (fun e => by omega)]
    · rw [if_neg (fun e => by have := refV_ind _ _ h; have := (goodN_iff.1 h).1; omega)]
theorem place_eff {S : Nat → Prop} {v : Vol} {f : Nat → Ino} {n k b : Nat} {v' : Vol} {x' : Ino} (hv : okV v = true) (hs : Sd S v f) (hn : S n) (hx : fitI (f n)) (hk : k < 70) (h : placeV v (f n) k = some (b, v', x')) : Placed S v f n k b v' x' := by
  have hhi := (okV_iff.1 hv).hi
  have hd := dataV_pos v
  have ra := refV_at v (f n) hk
  unfold placeV at h
  split at h
  · rename_i h0
    rw [← ra] at h0
    split at h
    · rename_i hg
      split at h
      · cases h
      · rename_i b0 hb
        cases h
        exact take_name hv hs hn hx hk hg h0 hb
    · rename_i hg
      rw [not_or] at hg
      have hk6 : 6 ≤ k := by omega
      have hg2 : goodN (dataV v) v.length (f n).ind = false := by simpa using hg.2
      split at h
      · cases h
      · rename_i i hi
        split at h
        · cases h
        · rename_i b0 hb
          cases h
          obtain ⟨f1, f2, f3, _⟩ := freeB_some hi
          have hu := hs.un (b := i) (by omega) f3
          have kT := kept_tookV hv f1 f2
          obtain ⟨sT, uT⟩ := sd_took hv hs f1 f2 f3
          have rT : ∀ m κ, S m → refV (tookV v i) (f m) κ = refV v (f m) κ := fun m κ hm => ref_took hv f1 f2 (Sd.ind_of hu hm) κ
          have hgi : goodN (dataV (tookV v i)) (tookV v i).length i = true := goodN_iff.2 ⟨by rw [kT.dat]; exact f1, by rw [kT.len]; exact f2⟩
          have hgn : goodN (dataV (tookV v i)) (tookV v i).length (f n).ind = false := by rw [kT.dat, kT.len]; exact hg2
          have hzi := bk_took_same (v := v) f2
          obtain ⟨s1, c1⟩ := setI_eff kT.ok sT hn hgn hgi hzi (by rw [bits_took hv f1 f2 f3]; simp) uT
          have e1 : upd f n ((f n).setI i) n = (f n).setI i := upd_same _ _ _
          have r1 : ∀ κ, refV (tookV v i) ((f n).setI i) κ = if κ = 70 then i else refV v (f n) κ := fun κ => by rw [ref_setI hgn hgi hzi, rT n κ hn]
          have hP := take_name (b := b) (k := k) kT.ok s1 hn (by rw [e1]; exact setI_fit hx (by omega)) hk (.inr (by rw [e1]; exact hgi)) (by rw [e1, r1, if_neg (by omega)]; exact h0) hb
          rw [e1, kT.dat] at hP
          have hr0 : refV v (f n) 70 = 0 := refV_noind _ _ hg2
          refine ⟨kT.trans hP.kept, hP.fit, ?_, ?_, ?_, ?_, hP.at_, hP.pos, fun κ h1 h2 => ?_, fun hh => ?_, hP.far, fun m hm hmn κ => ?_, ?_, fun m hm j hj => ?_, ?_⟩
          · rw [hP.size, e1]; rfl
          · rw [hP.kind, e1]; rfl
          · rw [hP.owner, e1]; rfl
          · rw [hP.ext, e1]; rfl
          · rw [hP.own κ h1 h2, e1, r1, if_neg h2]
          · rcases hh with hh | hh
            · exact absurd hr0 hh
            · omega
          · have := hP.oth m hm hmn κ
            rw [upd_other _ _ hmn] at this
            rw [this, rT m κ hm]
          · have := hP.sd
            rwa [upd_upd] at this
          · have := hP.blk m hm j hj
            rw [upd_upd] at this
            rw [this, c1 m hm j hj, blk_took hv f1 f2 (fun κ hκ => hu m κ hm hκ) hj]
          · have := hP.room
            rw [e1, r1, r1, if_neg (show ¬ k = 70 by omega), if_pos h0, if_pos rfl, if_neg (fun e => by omega)] at this
            rw [free_took hv f1 f2 f3, this, if_pos h0, if_pos ⟨hk6, hr0⟩]
  · rename_i h0
    cases h
    rw [← ra] at h0
    have hlt := refV_lt h0
    refine ⟨.rfl hv, hx, rfl, rfl, rfl, rfl, ra, by rw [← ra]; exact h0, fun _ _ _ => rfl, fun _ => rfl, fun h6 h70 => ?_, fun _ _ _ _ => rfl, by rw [upd_self]; exact hs, fun _ _ _ _ => by rw [upd_self], ?_⟩
    · have hi : goodN (dataV v) v.length (f n).ind = false := by
        cases hc : goodN (dataV v) v.length (f n).ind
        · rfl
        · rw [refV_ind _ _ hc] at h70
          rw [h70, goodN_zero] at hc
          cases hc
      exact h0 (refV_far0 _ _ h6 hk hi)
    · have h70 : 6 ≤ k → refV v (f n) 70 ≠ 0 := fun h6 h70 => by
        have hi : goodN (dataV v) v.length (f n).ind = false := by
          cases hc : goodN (dataV v) v.length (f n).ind
          · rfl
          · rw [refV_ind _ _ hc] at h70
            rw [h70, goodN_zero] at hc
            cases hc
        exact h0 (refV_far0 _ _ h6 hk hi)
      rw [if_neg h0, if_neg (fun e => h70 e.1 e.2)]
      rfl
end Go.Proofs.Ytacdohlhalnioaa
end

/- The pure law of files: bytes are written: what turns, and what stays. -/
section
set_option linter.unusedVariables false
set_option linter.unusedSimpArgs false
set_option maxRecDepth 20000
namespace Go.Proofs.Ytacdohlhalnioaa
open Go.RowKit

/-- How many blocks an inode names. -/
def cntR (v : Vol) (x : Ino) : Nat := (List.range 72).countP fun κ => refV v x κ != 0
theorem countP_more (p q : Nat → Bool) (b n : Nat) (hb : b < n) (hq : ∀ j, j < n → q j = (decide (j = b) || p j)) : (List.range n).countP q = (List.range n).countP p + (if p b = true then 0 else 1) := by
  have e : (List.range n).countP q = (List.range n).countP fun j => decide (j = b) || p j := by
    rw [List.countP_eq_length_filter, List.countP_eq_length_filter]
    congr 1
    exact List.filter_congr (fun j hj => hq j (List.mem_range.1 hj))
  rw [e]
  by_cases h : p b = true
  · rw [if_pos h]
    have : (fun j => decide (j = b) || p j) = p := by
      funext j
      by_cases hj : j = b
      · subst hj; simp [h]
      · simp [hj]
    rw [this]
    rfl
  · rw [if_neg h, countP_less (fun j => decide (j = b) || p j) p b (by simp) (fun j => ?_) n, if_pos hb]
    by_cases hj : j = b
    · subst hj; simpa using h
    · simp [hj]
theorem Placed.cnt {S : Nat → Prop} {v : Vol} {f : Nat → Ino} {n k b : Nat} {v' : Vol} {x' : Ino} (h : Placed S v f n k b v' x') (hk : k < 70) : freeN v + cntR v (f n) = freeN v' + cntR v' x' := by
  have hr := h.room
  have e1 := countP_more (fun κ => refV v (f n) κ != 0) (fun κ => decide (κ = k) || (refV v (f n) κ != 0)) k 72 (by omega) (fun j _ => rfl)
  have key : cntR v' x' = (List.range 72).countP (fun κ => decide (κ = k) || (refV v (f n) κ != 0)) + (if 6 ≤ k ∧ refV v (f n) 70 = 0 then 1 else 0) := by
    by_cases hc : 6 ≤ k ∧ refV v (f n) 70 = 0
    · rw [if_pos hc, cntR, countP_more (fun κ => decide (κ = k) || (refV v (f n) κ != 0)) (fun κ => refV v' x' κ != 0) 70 72 (by omega) (fun j hj => ?_), if_neg]
      · simp only [hc.2]
        simp
        omega
      · by_cases e : j = k
        · subst e
          simp [h.at_, h.pos]
        · by_cases e2 : j = 70
          · subst e2
            simp [h.far hc.1]
          · simp [e, e2, h.own j e e2]
    · rw [if_neg hc, Nat.add_zero, cntR]
      rw [List.countP_eq_length_filter, List.countP_eq_length_filter]
      congr 1
      refine List.filter_congr (fun j hj => ?_)
      by_cases e : j = k
      · subst e
        simp [h.at_, h.pos]
      · by_cases e2 : j = 70
        · subst e2
          rw [h.ind (by omega)]
          simp [e]
        · simp [e, h.own j e e2]
  rw [key, e1, hr, cntR]
  by_cases hk0 : refV v (f n) k = 0
  · simp only [hk0]
    simp
    omega
  · simp only [hk0]
    simp [hk0]
    omega

/-! A block of a file gets other bytes. -/
structure Filled (S : Nat → Prop) (v : Vol) (f : Nat → Ino) (n k : Nat) (s : Blk) (v' : Vol) : Prop where
  kept : Kept v v'
  ref : ∀ m, S m → ∀ κ, refV v' (f m) κ = refV v (f m) κ
  sd : Sd S v' f
  map : bk v' 2 = bk v 2
  at_ : blkV v' (f n) k = s
  oth : ∀ m, S m → ∀ j, j < 70 → (m ≠ n ∨ j ≠ k) → blkV v' (f m) j = blkV v (f m) j
theorem fill_eff {S : Nat → Prop} {v : Vol} {f : Nat → Ino} {n k : Nat} {s : Blk} (hv : okV v = true) (hs : Sd S v f) (hn : S n) (hk : k < 70) (h0 : refV v (f n) k ≠ 0) (hl : s.length = 128) : Filled S v f n k s (v.set (refV v (f n) k) s) := by
  obtain ⟨h1, h2⟩ := refV_lt h0
  have hd := dataV_pos v
  have kp : Kept v (v.set (refV v (f n) k) s) := kept_set hv (by omega) hl
  have ref : ∀ m, S m → ∀ κ, refV (v.set (refV v (f n) k) s) (f m) κ = refV v (f m) κ := fun m hm κ => refV_congr kp (fun hg => bk_set_other _ _ _ _ (fun e => by
    have := (hs.inj n k m 70 hn hm (by omega) (by omega) h0 (by rw [refV_ind _ _ hg, e])).2
    omega)) κ
  refine ⟨kp, ref, ⟨fun m κ hm hκ hh => ?_, fun m κ p l hm hp hκ hl hh e => ?_⟩, bk_set_other _ _ _ _ (by omega), ?_, fun m hm j hj hmj => ?_⟩
  · rw [ref m hm] at hh ⊢
    rw [bk_set_other _ _ _ _ (by omega)]
    exact hs.bits m κ hm hκ hh
  · rw [ref m hm] at hh e
    rw [ref p hp] at e
    exact hs.inj m κ p l hm hp hκ hl hh e
  · rw [blkV, ref n hn, if_neg h0, bk_set_same _ _ _ h2]
  · refine blkV_congr (ref m hm j) (fun hh => bk_set_other _ _ _ _ (fun e => ?_))
    have := hs.inj n k m j hn hm (by omega) (by omega) h0 e
    omega

/-- What a write turns, and what it leaves. -/
structure Wrote (S : Nat → Prop) (v : Vol) (f : Nat → Ino) (n a : Nat) (t : Blk) (v' : Vol) (x' : Ino) : Prop where
  kept : Kept v v'
  fit : fitI x'
  size : x'.size = (f n).size
  kind : x'.kind = (f n).kind
  owner : x'.owner = (f n).owner
  ext : x'.ext = (f n).ext
  sd : Sd S v' (upd f n x')
  refO : ∀ m, S m → m ≠ n → ∀ κ, refV v' (f m) κ = refV v (f m) κ
  blkO : ∀ m, S m → m ≠ n → ∀ j, j < 70 → blkV v' (f m) j = blkV v (f m) j
  byte : ∀ i, i < 8960 → gb (blkV v' x' (i / 128)) (i % 128) = if a ≤ i ∧ i < a + t.length then gb t (i - a) else gb (blkV v (f n) (i / 128)) (i % 128)
  refs : ∀ k, k < 70 → (refV v' x' k ≠ 0 ↔ refV v (f n) k ≠ 0 ∨ (t ≠ [] ∧ a / 128 ≤ k ∧ k ≤ (a + t.length - 1) / 128))
  ind : refV v' x' 70 ≠ 0 ↔ refV v (f n) 70 ≠ 0 ∨ (t ≠ [] ∧ 6 ≤ (a + t.length - 1) / 128)
  room : freeN v + cntR v (f n) = freeN v' + cntR v' x'
theorem cntR_congr {v v' : Vol} {x x' : Ino} (h : ∀ κ, refV v' x' κ = refV v x κ) : cntR v' x' = cntR v x := by
  rw [cntR, cntR]
  simp only [h]
theorem blkV_len {v : Vol} {x : Ino} (hv : okV v = true) (k : Nat) : (blkV v x k).length = 128 := by
  rw [blkV]
  split
  · exact zs_length _
  · rename_i h; exact (okV_iff.1 hv).size _ (refV_lt h).2
theorem write_eff (S : Nat → Prop) (n : Nat) (hn : S n) (m : Nat) : ∀ {v : Vol} {f : Nat → Ino} {a : Nat} {t : Blk} {v' : Vol} {x' : Ino}, okV v = true → Sd S v f → fitI (f n) → t.length ≤ m → a + t.length ≤ 8960 → wrV m v (f n) a t = some (v', x') → Wrote S v f n a t v' x' := by
  have base : ∀ {v : Vol} {f : Nat → Ino} {a : Nat}, okV v = true → Sd S v f → fitI (f n) → Wrote S v f n a [] v (f n) := fun hv hs hx =>
    ⟨.rfl hv, hx, rfl, rfl, rfl, rfl, by rw [upd_self]; exact hs, fun _ _ _ _ => rfl, fun _ _ _ _ _ => rfl, fun i _ => by rw [if_neg (fun h => by simp at h; omega)], fun k _ => by simp, by simp, rfl⟩
  induction m with
  | zero =>
    intro v f a t v' x' hv hs hx hm ha h
    obtain rfl : t = [] := List.length_eq_zero_iff.1 (by omega)
    cases h
    exact base hv hs hx
  | succ m ih =>
    intro v f a t v' x' hv hs hx hm ha h
    rw [wrV] at h
    by_cases ht : t = []
    · rw [if_pos ht] at h
      cases h
      subst ht
      exact base hv hs hx
    · rw [if_neg ht] at h
      have htl := List.length_pos_iff.2 ht
      obtain ⟨k, hk⟩ : ∃ k, a / 128 = k := ⟨_, rfl⟩
      obtain ⟨r, hr⟩ : ∃ r, a % 128 = r := ⟨_, rfl⟩
      rw [hk, hr] at h
      have hk70 : k < 70 := by omega
      obtain ⟨p, hp⟩ : ∃ p, t.take (128 - r) = p := ⟨_, rfl⟩
      rw [hp] at h
      have hpl : p.length = min (128 - r) t.length := by rw [← hp, List.length_take]
      have hpne : 0 < p.length := by omega
      obtain ⟨pl, hpv⟩ : ∃ pl, placeV v (f n) k = pl := ⟨_, rfl⟩
      rw [hpv] at h
      rcases pl with _ | ⟨b, v1, x1⟩
      · cases h
      · have hP := place_eff hv hs hn hx hk70 hpv
        simp only at h
        have h1 : refV v1 (upd f n x1 n) k = b := by rw [upd_same]; exact hP.at_
        have hB : bk v1 b = blkV v (f n) k := by
          rw [← hP.blk n hn k hk70, upd_same, blkV, hP.at_, if_neg hP.pos]
        have hBl : (bk v1 b).length = 128 := by rw [hB]; exact blkV_len hv k
        have hol : (over (bk v1 b) r p).length = 128 := by rw [over_length _ _ _ (by omega), hBl]
        have hF := fill_eff (f := upd f n x1) (k := k) (s := over (bk v1 b) r p) hP.kept.ok hP.sd hn hk70 (by rw [h1]; exact hP.pos) hol
        rw [h1] at hF
        have hI := @ih (v1.set b (over (bk v1 b) r p)) (upd f n x1) (a + p.length) (t.drop p.length) v' x' hF.kept.ok hF.sd (by rw [upd_same]; exact hP.fit) (by rw [List.length_drop]; omega) (by rw [List.length_drop]; omega) (by rw [upd_same]; exact h)
        have hnxt : t.drop p.length ≠ [] → a + p.length = 128 * (k + 1) := fun hne => by
          have := List.length_pos_iff.2 hne
          rw [List.length_drop] at this
          omega
        have hdl : (t.drop p.length).length = t.length - p.length := List.length_drop
        have hrf : ∀ κ, refV (v1.set b (over (bk v1 b) r p)) (upd f n x1 n) κ = refV v1 x1 κ := fun κ => by rw [hF.ref n hn, upd_same]
        have hsame := upd_same f n x1
        refine ⟨(hP.kept.trans hF.kept).trans hI.kept, hI.fit, ?_, ?_, ?_, ?_, ?_, fun q hq hqn κ => ?_, fun q hq hqn j hj => ?_, fun i hi => ?_, fun j hj => ?_, ?_, ?_⟩
        · rw [hI.size, hsame, hP.size]
        · rw [hI.kind, hsame, hP.kind]
        · rw [hI.owner, hsame, hP.owner]
        · rw [hI.ext, hsame, hP.ext]
        · have := hI.sd
          rwa [upd_upd] at this
        · have e1 := hI.refO q hq hqn κ
          have e2 := hF.ref q hq κ
          rw [upd_other _ _ hqn] at e1 e2
          rw [e1, e2, hP.oth q hq hqn]
        · have e1 := hI.blkO q hq hqn j hj
          have e2 := hF.oth q hq j hj (.inl hqn)
          have e3 := hP.blk q hq j hj
          rw [upd_other _ _ hqn] at e1 e2 e3
          rw [e1, e2, e3]
        · rw [hI.byte i hi, hdl, hsame]
          by_cases c1 : a + p.length ≤ i ∧ i < a + p.length + (t.length - p.length)
          · rw [if_pos c1, if_pos (by omega), gb_drop]
            congr 1
            omega
          · rw [if_neg c1]
            by_cases c2 : i / 128 = k
            · have e4 := hF.at_
              rw [hsame] at e4
              rw [c2, e4, gb_over _ _ _ (by omega), hB]
              by_cases c3 : r ≤ i % 128 ∧ i % 128 < r + p.length
              · rw [if_pos c3, if_pos (by omega), ← hp, gb_take _ _ _ (by omega)]
                congr 1
                omega
              · rw [if_neg c3, if_neg (by omega)]
            · have e4 := hF.oth n hn (i / 128) (by omega) (.inr c2)
              have e5 := hP.blk n hn (i / 128) (by omega)
              rw [hsame] at e4 e5
              rw [e4, e5, if_neg (by omega)]
        · rw [hI.refs j hj, hrf, hdl]
          by_cases c : j = k
          · subst c
            rw [hP.at_]
            simp only [hP.pos, ne_eq, not_false_eq_true, true_or, true_iff]
            exact .inr ⟨ht, by omega, by omega⟩
          · rw [hP.own j c (by omega)]
            constructor
            · rintro (h2 | ⟨h2, h3, h4⟩)
              · exact .inl h2
              · have := hnxt h2
                have := List.length_pos_iff.2 h2
                exact .inr ⟨ht, by omega, by omega⟩
            · rintro (h2 | ⟨h2, h3, h4⟩)
              · exact .inl h2
              · have hne : t.drop p.length ≠ [] := fun e => by
                  have := congrArg List.length e
                  rw [hdl, List.length_nil] at this
                  omega
                have := hnxt hne
                exact .inr ⟨hne, by omega, by omega⟩
        · rw [hI.ind, hrf, hdl]
          constructor
          · rintro (h2 | ⟨h2, h3⟩)
            · by_cases c : refV v (f n) 70 ≠ 0 ∨ k < 6
              · rw [hP.ind c] at h2
                exact .inl h2
              · rw [not_or] at c
                exact .inr ⟨ht, by omega⟩
            · have := hnxt h2
              have := List.length_pos_iff.2 h2
              exact .inr ⟨ht, by omega⟩
          · rintro (h2 | ⟨h2, h3⟩)
            · exact .inl (by rw [hP.ind (.inl h2)]; exact h2)
            · by_cases c : 6 ≤ k
              · exact .inl (hP.far c)
              · have hne : t.drop p.length ≠ [] := fun e => by
                  have := congrArg List.length e
                  rw [hdl, List.length_nil] at this
                  omega
                have := hnxt hne
                exact .inr ⟨hne, by omega⟩
        · rw [hP.cnt hk70, ← hI.room, hsame, free_map hF.kept hF.map]
          congr 1
          exact (cntR_congr (fun κ => by have := hrf κ; rwa [hsame] at this)).symm
end Go.Proofs.Ytacdohlhalnioaa
end

/- The pure law of files: a file is made shorter: what turns, and what stays. -/
section
set_option linter.unusedVariables false
set_option linter.unusedSimpArgs false
set_option maxRecDepth 20000
namespace Go.Proofs.Ytacdohlhalnioaa
open Go.RowKit

theorem name_give {v : Vol} {x : Ino} {k b : Nat} (hv : okV v = true) : nameV (dataV v) (giveV v b) x k 0 = giveV (nameV (dataV v) v x k 0) b := by
  have hd := dataV_pos v
  have hm : bk (nameV (dataV v) v x k 0) 2 = bk v 2 := bk_name (fun g e => by have := (goodN_iff.1 g).1; omega)
  have hl : (giveV v b).length = v.length := by unfold giveV; split <;> simp
  by_cases hk : k < 6
  · rw [nameV, if_pos hk, nameV, if_pos hk]
  · by_cases hg : goodN (dataV v) v.length x.ind = true
    · have hi := (goodN_iff.1 hg).1
      have e : nameV (dataV v) v x k 0 = v.set x.ind (put2 (bk v x.ind) (2 * (k - 6)) 0) := by rw [nameV, if_neg hk, if_pos hg]
      rw [nameV, if_neg hk, hl, if_pos hg, bk_give (by omega)]
      unfold giveV
      rw [hm]
      split
      · rw [e, List.set_comm _ _ (by omega)]
      · exact e.symm
    · rw [nameV, if_neg hk, hl, if_neg hg, nameV, if_neg hk, if_neg hg]

/-- What is the same of an inode. -/
structure Alike (x x' : Ino) : Prop where
  size : x'.size = x.size
  kind : x'.kind = x.kind
  owner : x'.owner = x.owner
  ext : x'.ext = x.ext
theorem Alike.rfl (x : Ino) : Alike x x := ⟨Eq.refl _, Eq.refl _, Eq.refl _, Eq.refl _⟩
theorem Alike.trans {x y z : Ino} (h : Alike x y) (g : Alike y z) : Alike x z := ⟨g.size.trans h.size, g.kind.trans h.kind, g.owner.trans h.owner, g.ext.trans h.ext⟩
/-- Some blocks of an inode go: those of the keys in P. -/
structure Gone (S : Nat → Prop) (v : Vol) (f : Nat → Ino) (n : Nat) (P : Nat → Prop) (v' : Vol) (x' : Ino) : Prop where
  kept : Kept v v'
  fit : fitI x'
  like : Alike (f n) x'
  sd : Sd S v' (upd f n x')
  gone : ∀ κ, κ < 72 → P κ → refV v' x' κ = 0
  own : ∀ κ, κ < 72 → ¬ P κ → refV v' x' κ = refV v (f n) κ
  refO : ∀ m, S m → m ≠ n → ∀ κ, refV v' (f m) κ = refV v (f m) κ
  blkO : ∀ m, S m → m ≠ n → ∀ j, j < 70 → blkV v' (f m) j = blkV v (f m) j
  blk : ∀ j, j < 70 → ¬ P j → blkV v' x' j = blkV v (f n) j
  room : freeN v + cntR v (f n) = freeN v' + cntR v' x'
theorem Gone.trans {S : Nat → Prop} {v : Vol} {f : Nat → Ino} {n : Nat} {P Q : Nat → Prop} {v' v2 : Vol} {x' x2 : Ino} (h : Gone S v f n P v' x') (g : Gone S v' (upd f n x') n Q v2 x2) : Gone S v f n (fun κ => P κ ∨ Q κ) v2 x2 := by
  have hs := upd_same f n x'
  refine ⟨h.kept.trans g.kept, g.fit, by have := g.like; rw [hs] at this; exact h.like.trans this, by have := g.sd; rwa [upd_upd] at this, fun κ hκ hp => ?_, fun κ hκ hp => ?_, fun m hm hmn κ => ?_, fun m hm hmn j hj => ?_, fun j hj hp => ?_, ?_⟩
  · by_cases hq : Q κ
    · exact g.gone κ hκ hq
    · rw [g.own κ hκ hq, hs]
      exact h.gone κ hκ (hp.resolve_right hq)
  · rw [not_or] at hp
    rw [g.own κ hκ hp.2, hs, h.own κ hκ hp.1]
  · have := g.refO m hm hmn κ
    rw [upd_other _ _ hmn] at this
    rw [this, h.refO m hm hmn]
  · have := g.blkO m hm hmn j hj
    rw [upd_other _ _ hmn] at this
    rw [this, h.blkO m hm hmn j hj]
  · rw [not_or] at hp
    rw [g.blk j hj hp.2, hs, h.blk j hj hp.1]
  · have := g.room
    rw [hs] at this
    rw [h.room, this]
theorem Gone.weak {S : Nat → Prop} {v : Vol} {f : Nat → Ino} {n : Nat} {P Q : Nat → Prop} {v' : Vol} {x' : Ino} (h : Gone S v f n P v' x') (hpq : ∀ κ, κ < 72 → (P κ ↔ Q κ)) : Gone S v f n Q v' x' :=
  ⟨h.kept, h.fit, h.like, h.sd, fun κ hκ hq => h.gone κ hκ ((hpq κ hκ).2 hq), fun κ hκ hq => h.own κ hκ (fun hp => hq ((hpq κ hκ).1 hp)), h.refO, h.blkO, fun j hj hq => h.blk j hj (fun hp => hq ((hpq j (by omega)).1 hp)), h.room⟩
theorem Gone.none {S : Nat → Prop} {v : Vol} {f : Nat → Ino} {n : Nat} {P : Nat → Prop} (hv : okV v = true) (hs : Sd S v f) (hx : fitI (f n)) (hp : ∀ κ, κ < 72 → P κ → refV v (f n) κ = 0) : Gone S v f n P v (f n) :=
  ⟨.rfl hv, hx, .rfl _, by rw [upd_self]; exact hs, hp, fun _ _ _ => rfl, fun _ _ _ _ => rfl, fun _ _ _ _ _ => rfl, fun _ _ _ => rfl, rfl⟩
/-- The number of a block goes, then the block: by steps. -/
theorem gone_one {S : Nat → Prop} {v : Vol} {f : Nat → Ino} {n k : Nat} {v1 : Vol} {x' : Ino} (hv : okV v = true) (hs : Sd S v f) (hn : S n) (hk : k < 72) (kp : Kept v v1) (hx : fitI x') (hl : Alike (f n) x')
    (own : ∀ κ, κ < 72 → refV v1 x' κ = if κ = k then 0 else refV v (f n) κ) (oth : ∀ m, S m → m ≠ n → ∀ κ, refV v1 (f m) κ = refV v (f m) κ) (sd : Sd S v1 (upd f n x')) (map : bk v1 2 = bk v 2)
    (blk : ∀ m, S m → ∀ j, j < 70 → (m ≠ n ∨ j ≠ k) → blkV v1 (upd f n x' m) j = blkV v (f m) j) :
    Gone S v f n (fun κ => κ = k) (if refV v (f n) k = 0 then v1 else giveV v1 (refV v (f n) k)) x' := by
  by_cases h0 : refV v (f n) k = 0
  · rw [if_pos h0]
    refine ⟨kp, hx, hl, sd, fun κ hκ e => by rw [own κ hκ, if_pos e], fun κ hκ e => by rw [own κ hκ, if_neg e], oth, fun m hm hmn j hj => ?_, fun j hj e => ?_, ?_⟩
    · have := blk m hm j hj (.inl hmn)
      rwa [upd_other _ _ hmn] at this
    · have := blk n hn j hj (.inr e)
      rwa [upd_same] at this
    · rw [free_map kp map, cntR, cntR, List.countP_eq_length_filter, List.countP_eq_length_filter]
      congr 2
      refine List.filter_congr (fun κ hκ => ?_)
      rw [own κ (List.mem_range.1 hκ)]
      by_cases e : κ = k
      · subst e; rw [if_pos rfl, h0]
      · rw [if_neg e]
  · rw [if_neg h0]
    obtain ⟨h1, h2⟩ := refV_lt h0
    rw [← kp.dat] at h1
    rw [← kp.len] at h2
    have hb := hs.bits n k hn hk h0
    have hu : Un S v1 (upd f n x') (refV v (f n) k) := fun m κ hm hκ e => by
      by_cases hmn : m = n
      · subst hmn
        rw [upd_same, own κ hκ] at e
        by_cases hκk : κ = k
        · rw [if_pos hκk] at e; exact h0 e.symm
        · rw [if_neg hκk] at e
          exact hκk (hs.inj m k m κ hn hn hk hκ h0 e.symm).2.symm
      · rw [upd_other _ _ hmn, oth m hm hmn] at e
        exact hmn (hs.inj n k m κ hn hm hk hκ h0 e.symm).1.symm
    have rg : ∀ (y : Ino) κ, refV (giveV v1 (refV v (f n) k)) y κ = refV v1 y κ := fun y κ => ref_give kp.ok h1 h2 κ
    refine ⟨kp.trans (kept_giveV kp.ok h1 h2), hx, hl, sd_give kp.ok sd h1 h2 hu, fun κ hκ e => by rw [rg, own κ hκ, if_pos e], fun κ hκ e => by rw [rg, own κ hκ, if_neg e], fun m hm hmn κ => by rw [rg, oth m hm hmn], fun m hm hmn j hj => ?_, fun j hj e => ?_, ?_⟩
    · have := blk m hm j hj (.inl hmn)
      rw [upd_other _ _ hmn] at this
      rw [blk_give kp.ok h1 h2, this]
    · have := blk n hn j hj (.inr e)
      rw [upd_same] at this
      rw [blk_give kp.ok h1 h2, this]
    · rw [free_give kp.ok h1 h2 (by rw [map]; exact hb), free_map kp map]
      have e : cntR v (f n) = cntR (giveV v1 (refV v (f n) k)) x' + 1 := by
        rw [cntR, cntR, countP_more (fun κ => refV (giveV v1 (refV v (f n) k)) x' κ != 0) (fun κ => refV v (f n) κ != 0) k 72 hk (fun j hj => ?_), if_neg]
        · simp [rg, own k hk]
        · rw [rg, own j hj]
          by_cases e : j = k
          · subst e; simp [h0]
          · simp [e]
      rw [e]
      omega
/-- A block goes from an inode. -/
theorem drop_eff {S : Nat → Prop} {v : Vol} {f : Nat → Ino} {n k : Nat} (hv : okV v = true) (hs : Sd S v f) (hn : S n) (hx : fitI (f n)) (hk : k < 70) : Gone S v f n (fun κ => κ = k) (dropV v (f n) k).1 (dropV v (f n) k).2 := by
  have ra := refV_at v (f n) hk
  by_cases hg : k < 6 ∨ goodN (dataV v) v.length (f n).ind = true
  · have hN := name_eff (b := 0) hv hs hn hk (by omega) hg (fun h => absurd rfl h)
    have := gone_one hv hs hn (by omega : k < 72) (kept_nameV hv rfl) (nameX_fit hx (by omega)) ⟨nameX_size _ _ _, (nameX_kind _ _ _).1, (nameX_kind _ _ _).2, nameX_ext _ _ _⟩ (fun κ _ => hN.own κ) hN.oth hN.sd hN.map hN.blk
    have e : (dropV v (f n) k).1 = (if refV v (f n) k = 0 then nameV (dataV v) v (f n) k 0 else giveV (nameV (dataV v) v (f n) k 0) (refV v (f n) k)) := by
      show nameV (dataV v) (dropG (dataV v) v (f n) k) (f n) k 0 = _
      rw [dropG, ← ra]
      split
      · rfl
      · exact name_give hv
    rw [e]
    exact this
  · rw [not_or] at hg
    have hg2 : goodN (dataV v) v.length (f n).ind = false := by simpa using hg.2
    have h0 := refV_far0 v (f n) (by omega) hk hg2
    have e1 : (dropV v (f n) k).1 = v := by
      show nameV (dataV v) (dropG (dataV v) v (f n) k) (f n) k 0 = v
      rw [dropG, ← ra, if_pos h0, nameV, if_neg hg.1, if_neg hg.2]
    have e2 : (dropV v (f n) k).2 = f n := by
      show nameX (f n) k 0 = f n
      rw [nameX, if_neg hg.1]
    rw [e1, e2]
    exact .none hv hs hx (fun κ _ e => by rw [e]; exact h0)
theorem dropTo_eff (S : Nat → Prop) (n : Nat) (hn : S n) (m : Nat) : ∀ {v : Vol} {f : Nat → Ino} {k : Nat}, okV v = true → Sd S v f → fitI (f n) → k + m ≤ 70 → Gone S v f n (fun κ => k ≤ κ ∧ κ < k + m) (dropTo m v (f n) k).1 (dropTo m v (f n) k).2 := by
  induction m with
  | zero =>
    intro v f k hv hs hx hk
    exact .none hv hs hx (fun κ _ h => by omega)
  | succ m ih =>
    intro v f k hv hs hx hk
    have h1 := drop_eff hv hs hn hx (by omega : k < 70)
    have h2 := @ih (dropV v (f n) k).1 (upd f n (dropV v (f n) k).2) (k + 1) h1.kept.ok h1.sd (by rw [upd_same]; exact h1.fit) (by omega)
    rw [upd_same] at h2
    exact (h1.trans h2).weak (fun κ _ => by omega)
/-- The block of the numbers goes. -/
theorem far_eff {S : Nat → Prop} {v : Vol} {f : Nat → Ino} {n s : Nat} (hv : okV v = true) (hs : Sd S v f) (hn : S n) (hx : fitI (f n)) (h0 : s ≤ 768 → ∀ j, 6 ≤ j → j < 70 → refV v (f n) j = 0) : Gone S v f n (fun κ => κ = 70 ∧ s ≤ 768) (farV v (f n) s).1 (farV v (f n) s).2 := by
  by_cases h7 : s ≤ 768
  · have hgz : goodN (dataV v) v.length ((f n).setI 0).ind = false := goodN_zero _ _
    have own : ∀ κ, κ < 72 → refV v ((f n).setI 0) κ = if κ = 70 then 0 else refV v (f n) κ := fun κ hκ => by
      by_cases h70 : κ = 70
      · rw [if_pos h70, h70, refV_noind _ _ hgz]
      · rw [if_neg h70]
        by_cases h6 : κ < 6
        · rw [refV_at _ _ (by omega), refV_at _ _ (by omega), atN, atN, numV_near h6, numV_near h6]
          rcases (by omega : κ = 0 ∨ κ = 1 ∨ κ = 2 ∨ κ = 3 ∨ κ = 4 ∨ κ = 5) with rfl | rfl | rfl | rfl | rfl | rfl <;> rfl
        · by_cases h : κ < 70
          · rw [h0 h7 κ (by omega) h, refV_far0 _ _ (by omega) h hgz]
          · rw [refV, refV, if_neg h, if_neg h, if_neg h70, if_neg h70]
            rfl
    have hr : ∀ m, S m → ∀ κ, κ < 72 → refV v (upd f n ((f n).setI 0) m) κ = if m = n ∧ κ = 70 then 0 else refV v (f m) κ := fun m hm κ hκ => by
      by_cases h : m = n
      · subst h
        rw [upd_same, own κ hκ]
        by_cases e : κ = 70
        · rw [if_pos e, if_pos ⟨rfl, e⟩]
        · rw [if_neg e, if_neg (fun h => e h.2)]
      · rw [upd_other _ _ h, if_neg (fun e => h e.1)]
    have sd : Sd S v (upd f n ((f n).setI 0)) := by
      refine ⟨fun m κ hm hκ hh => ?_, fun m κ p l hm hp hκ hl hh e => ?_⟩
      · rw [hr m hm κ hκ] at hh ⊢
        split at hh
        · exact absurd rfl hh
        · rename_i hc
          rw [if_neg hc]
          exact hs.bits m κ hm hκ hh
      · rw [hr m hm κ hκ] at hh e
        rw [hr p hp l hl] at e
        split at hh
        · exact absurd rfl hh
        · rename_i hc
          rw [if_neg hc] at e
          split at e
          · exact absurd e hh
          · exact hs.inj m κ p l hm hp hκ hl hh e
    have := gone_one (x' := (f n).setI 0) hv hs hn (by omega : 70 < 72) (.rfl hv) (setI_fit hx (by omega)) ⟨rfl, rfl, rfl, rfl⟩ own (fun _ _ _ _ => rfl) sd rfl (fun m hm j hj hmj => by
      have e := hr m hm j (by omega)
      rw [if_neg (fun h => by omega)] at e
      rw [blkV, blkV, e])
    have e : (farV v (f n) s).1 = (if refV v (f n) 70 = 0 then v else giveV v (refV v (f n) 70)) := by
      rw [farV, if_pos h7]
      show (if goodN (dataV v) v.length (f n).ind = true then giveV v (f n).ind else v) = _
      by_cases hg : goodN (dataV v) v.length (f n).ind = true
      · have := (goodN_iff.1 hg).1
        have := dataV_pos v
        rw [if_pos hg, refV_ind _ _ hg, if_neg (by omega)]
      · rw [if_neg hg, refV_noind _ _ (by simpa using hg), if_pos rfl]
    have e2 : (farV v (f n) s).2 = (f n).setI 0 := by rw [farV, if_pos h7]
    rw [e, e2]
    exact this.weak (fun κ _ => by show κ = 70 ↔ (κ = 70 ∧ s ≤ 768); omega)
  · have e : farV v (f n) s = (v, f n) := by rw [farV, if_neg h7]
    rw [e]
    exact .none hv hs hx (fun κ _ h => absurd h.2 h7)

/-- What a cut turns, and what it leaves. -/
structure Short (S : Nat → Prop) (v : Vol) (f : Nat → Ino) (n s : Nat) (v' : Vol) (x' : Ino) : Prop where
  kept : Kept v v'
  fit : fitI x'
  like : Alike (f n) x'
  sd : Sd S v' (upd f n x')
  refO : ∀ m, S m → m ≠ n → ∀ κ, refV v' (f m) κ = refV v (f m) κ
  blkO : ∀ m, S m → m ≠ n → ∀ j, j < 70 → blkV v' (f m) j = blkV v (f m) j
  refs : ∀ k, k < 70 → refV v' x' k = if k < needS s then refV v (f n) k else 0
  ind : refV v' x' 70 = if s ≤ 768 then 0 else refV v (f n) 70
  byte : ∀ i, i < 8960 → gb (blkV v' x' (i / 128)) (i % 128) = if i < s then gb (blkV v (f n) (i / 128)) (i % 128) else 0
  room : freeN v + cntR v (f n) = freeN v' + cntR v' x'
theorem short_eff {S : Nat → Prop} {v : Vol} {f : Nat → Ino} {n s : Nat} (hv : okV v = true) (hs : Sd S v f) (hn : S n) (hx : fitI (f n)) (hs9 : s < 8960) : Short S v f n s (shortV v (f n) s).1 (shortV v (f n) s).2 := by
  have hne : needS s ≤ 70 := by rw [needS]; omega
  have hneq : needS s = (s + 127) / 128 := rfl
  have h1 := dropTo_eff S n hn (70 - needS s) (k := needS s) hv hs hx (by omega)
  obtain ⟨⟨v1, x1⟩, hD⟩ : ∃ D, dropTo (70 - needS s) v (f n) (needS s) = D := ⟨_, rfl⟩
  rw [hD] at h1
  dsimp only at h1
  have h2 := far_eff (s := s) h1.kept.ok h1.sd hn (by rw [upd_same]; exact h1.fit) (fun h7 j hj hj70 => by
    rw [upd_same]
    exact h1.gone j (by omega) (by omega))
  rw [upd_same] at h2
  obtain ⟨⟨v2, x2⟩, hF⟩ : ∃ D, farV v1 x1 s = D := ⟨_, rfl⟩
  rw [hF] at h2
  dsimp only at h2
  have h3 := (h1.trans h2).weak (Q := fun κ => (needS s ≤ κ ∧ κ < 70) ∨ (κ = 70 ∧ s ≤ 768)) (fun κ _ => by omega)
  have eS : shortV v (f n) s = (restV v2 x2 s, x2) := by
    rw [shortV, hD]
    show (restV (farV v1 x1 s).1 (farV v1 x1 s).2 s, (farV v1 x1 s).2) = _
    rw [hF]
  rw [eS]
  show Short S v f n s (restV v2 x2 s) x2
  have hk2 := h3.kept
  have refs : ∀ k, k < 70 → refV v2 x2 k = if k < needS s then refV v (f n) k else 0 := fun k hk => by
    by_cases h : k < needS s
    · rw [if_pos h, h3.own k (by omega) (by omega)]
    · rw [if_neg h, h3.gone k (by omega) (by omega)]
  have ind : refV v2 x2 70 = if s ≤ 768 then 0 else refV v (f n) 70 := by
    by_cases h : s ≤ 768
    · rw [if_pos h, h3.gone 70 (by omega) (by omega)]
    · rw [if_neg h, h3.own 70 (by omega) (by omega)]
  have byte : ∀ i, i < 8960 → gb (blkV v2 x2 (i / 128)) (i % 128) = if i / 128 < needS s then gb (blkV v (f n) (i / 128)) (i % 128) else 0 := fun i hi => by
    by_cases h : i / 128 < needS s
    · rw [if_pos h, h3.blk (i / 128) (by omega) (by omega)]
    · rw [if_neg h, blkV, refs _ (by omega), if_neg h, if_pos rfl, gb_zeros]
  have hr := refV_at v2 x2 (show s / 128 < 70 by omega)
  by_cases hc : s % 128 = 0 ∨ atN (dataV v2) v2.length v2 x2 (s / 128) = 0
  · have eR : restV v2 x2 s = v2 := by rw [restV, if_pos hc]
    rw [eR]
    refine ⟨hk2, h3.fit, h3.like, h3.sd, h3.refO, h3.blkO, refs, ind, fun i hi => ?_, h3.room⟩
    rw [byte i hi]
    by_cases h : i < s
    · rw [if_pos h, if_pos (by omega)]
    · rw [if_neg h]
      by_cases h4 : i / 128 < needS s
      · rw [if_pos h4]
        have hi2 : i / 128 = s / 128 := by omega
        have h0 : refV v2 x2 (i / 128) = 0 := by
          rw [hi2, hr]
          exact hc.resolve_left (by omega)
        have := refs (i / 128) (by omega)
        rw [if_pos h4, h0] at this
        rw [blkV, if_pos this.symm, gb_zeros]
      · rw [if_neg h4]
  · rw [not_or] at hc
    rw [← hr] at hc
    obtain ⟨c1, c2⟩ := hc
    have eR : restV v2 x2 s = v2.set (refV v2 x2 (s / 128)) ((bk v2 (refV v2 x2 (s / 128))).take (s % 128) ++ zs (128 - s % 128)) := by
      rw [restV, if_neg (by rw [not_or]; exact ⟨c1, by rw [← hr]; exact c2⟩), ← hr]
    rw [eR]
    have hb := (refV_lt c2).2
    have h128 := (okV_iff.1 hk2.ok).size _ hb
    have hF := fill_eff (f := upd f n x2) (k := s / 128) (s := (bk v2 (refV v2 x2 (s / 128))).take (s % 128) ++ zs (128 - s % 128)) hk2.ok h3.sd hn (by omega) (by rw [upd_same]; exact c2) (by rw [List.length_append, List.length_take, zs_length]; omega)
    rw [upd_same] at hF
    have hrf : ∀ κ, refV (v2.set (refV v2 x2 (s / 128)) ((bk v2 (refV v2 x2 (s / 128))).take (s % 128) ++ zs (128 - s % 128))) x2 κ = refV v2 x2 κ := fun κ => by
      have := hF.ref n hn κ
      rwa [upd_same] at this
    refine ⟨hk2.trans hF.kept, h3.fit, h3.like, hF.sd, fun m hm hmn κ => ?_, fun m hm hmn j hj => ?_, fun k hk => by rw [hrf, refs k hk], by rw [hrf, ind], fun i hi => ?_, ?_⟩
    · have := hF.ref m hm κ
      rw [upd_other _ _ hmn] at this
      rw [this, h3.refO m hm hmn]
    · have := hF.oth m hm j hj (.inl hmn)
      rw [upd_other _ _ hmn] at this
      rw [this, h3.blkO m hm hmn j hj]
    · by_cases hi2 : i / 128 = s / 128
      · have := hF.at_
        rw [upd_same] at this
        have e5 : bk v2 (refV v2 x2 (s / 128)) = blkV v2 x2 (s / 128) := by rw [blkV, if_neg c2]
        have hlt : ((bk v2 (refV v2 x2 (s / 128))).take (s % 128)).length = s % 128 := by rw [List.length_take]; omega
        rw [hi2, this]
        by_cases h : i < s
        · rw [if_pos h, gb_append_left _ _ _ (by omega), gb_take _ _ _ (by omega), e5]
          have := byte i hi
          rw [hi2, if_pos (by omega)] at this
          exact this
        · rw [if_neg h, gb_append_right _ _ _ (by omega), gb_zeros]
      · have := hF.oth n hn (i / 128) (by omega) (.inr hi2)
        rw [upd_same] at this
        rw [this, byte i hi]
        by_cases h : i < s
        · rw [if_pos h, if_pos (by omega)]
        · rw [if_neg h, if_neg (by omega)]
    · rw [h3.room, free_map hF.kept hF.map]
      congr 1
      exact (cntR_congr hrf).symm
end Go.Proofs.Ytacdohlhalnioaa
end
